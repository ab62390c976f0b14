/- Texts of the law FnLutSteps, part 4: what it uses. -/
import Derived.Test.YtakjndmlanpadaaLup3
set_option linter.unusedVariables false
set_option linter.unusedSimpArgs false
namespace Go.Proofs.Ytakjndmlanpadaa
open Go.RowKit Go.ChangeShapes
open Go.RowKit
set_option maxHeartbeats 4000000 in
set_option maxRecDepth 100000 in
theorem l17Cut_ret (n : Nt) (ls : List Int) (lv : Value) (node h : Int) (w : World) (hr : RdsNt w n) (hn : NtOk n) (hl : RdsW w lv 1 ls.length (ls.map (Value.int .i64))) (hll : (ls.length : Int) = n.cnt) (hnd : 0 ≤ node ∧ node < n.cnt) :
   Calls Try.prog 97 #[.agg #[.int .i64 n.ins, n.sv, n.av, n.ov], lv, .int .i64 node, .int .i64 h] w (Ret w (fun u_ p_ => ∃ (xs : List Int) (cv : Value) (okb : Bool), u_ = .tuple #[cv, .bool okb] ∧ p_ = [rowE 3 1 cv xs.length (xs.map (Value.int .i64))] ∧ (xs.length : Int) ≤ n.cnt ∧ ∀ x ∈ xs, 0 ≤ x ∧ x < n.cnt)) := by
 have hi0 := hn.i0
 have hi1 := hn.i1
 have hs1 := hn.s1
 have ha1 := hn.a1
 have ho1 := hn.o1
 have hcnt : n.cnt = 1 + n.ins + n.ss.length + n.gs.length := rfl
 have hfst : n.fst = 1 + n.ins + n.ss.length := rfl
 refine zbq (N := 178) (args := [.agg #[.int .i64 n.ins, n.sv, n.av, n.ov], lv, .int .i64 node, .int .i64 h]) Try.func97 rfl rfl ?_
 refine zbt _ [3, 2, 1, 0] rfl (zaf (zab ?_))
 refine zci rfl rfl rfl (zdd rfl rfl) ?_
 intro b1
 refine zad 2 rfl (zac [9, 8, 4, 3, 2, 1, 0] rfl (zae (zaa (zaf (zab ?_)))))
 refine hl_v rfl rfl rfl (zbc (cs := [.int .i64 n.ins, n.sv, n.av, n.ov]) rfl (by kernel_rfl) (by kernel_rfl) rfl rfl (zay 0 rfl 0 rfl)) (zad 1 rfl ?_)
 refine hl_q rfl rfl rfl (zba (by kernel_rfl) rfl (fun w hm => Cone_ret n node w (hr.below hm.bel) hn hnd)) ?_
 intro v2 p3 hR4
 obtain ⟨cs, rfl, hcl, hcr⟩ : ∃ cs : List Int, p3 = [rowE 3 1 v2 cs.length (cs.map (Value.int .i64))] ∧ (cs.length : Int) ≤ n.cnt ∧ ∀ x ∈ cs, 0 ≤ x ∧ x ≤ node := ⟨_, hR4, coneS_len n node (by omega), coneS_rng hn hnd.1⟩
 refine zad 1 rfl (zac [10, 9, 8, 4, 3, 2, 1, 0] rfl (zae (zaa (zaf (zab ?_)))))
 refine hl_v rfl rfl rfl (zbc (cs := [.int .i64 n.ins, n.sv, n.av, n.ov]) rfl (by kernel_rfl) (by kernel_rfl) rfl rfl (zay 1 rfl 0 rfl)) ?_
 refine zbm rfl rfl rfl (zba (by kernel_rfl) rfl (fun w hm => zbk (zbs n w (hr.below hm.bel) hn))) ?_
 refine zbr rfl rfl rfl (zeu (z := .bool false) (s := 1) (bytes := 1) (n := (List.replicate (n.cnt).toNat bl0).length) (cs := ((List.replicate (n.cnt).toNat bl0).flatMap blC)) rfl Try.underlying80 (by kernel_rfl) (by decide) rfl rfl (by first | (rw [List.length_replicate]; done) | (rw [List.length_replicate]; omega)) (by first | (rw [List.length_replicate]; done) | (rw [List.length_replicate]; omega)) (by rw [List.length_replicate]; omega) (zfe blC 1 (fun _ => rfl) bl0 _ rfl (n.cnt).toNat)) ?_
 intro g5
 refine zad 1 rfl (zac [11, 10, 9, 8, 4, 3, 2, 1, 0] rfl (zae (zaa (zaf (zaf ?_)))))
 refine zab (zad 1 rfl (zac [12, 11, 10, 9, 8, 4, 3, 2, 1, 0] rfl (zae (zaa (zax ?_)))))
 refine zdt (α := Nat) (β := List Bl) (fun i us => [rowE 4 1 (.slice (some ⟨g5, 0, none⟩) ((List.replicate (n.cnt).toNat bl0).length) ((List.replicate (n.cnt).toNat bl0).length)) us.length (us.flatMap blC), rowE 3 1 v2 cs.length (cs.map (Value.int .i64)), boxE b1 #[.int .i64 n.ins, n.sv, n.av, n.ov] 101]) (fun i us => [(0, .agg #[.int .i64 n.ins, n.sv, n.av, n.ov]), (1, lv), (2, .int .i64 node), (3, .int .i64 h), (4, .pointer (some ⟨b1, 0, none⟩)), (8, .slice none 0 0), (9, .bool false), (10, v2), (11, .slice (some ⟨g5, 0, none⟩) ((List.replicate (n.cnt).toNat bl0).length) ((List.replicate (n.cnt).toNat bl0).length)), (12, .int .i64 (i : Int))]) (fun i us => i ≤ cs.length ∧ us.length = n.cnt.toNat) (fun i us => cs.length - i) 0 _ ⟨Nat.zero_le _, by rw [List.length_replicate]⟩ (zan [12, 11, 10, 9, 8, 4, 3, 2, 1, 0] rfl) ((.cons_cons _ (.cons_cons _ (.cons_cons _ .slnil)))) ?_
 intro i us hi6
 obtain ⟨hi, hul⟩ := hi6
 refine zaf (zaf (zab (zad 2 rfl (hl_v rfl rfl rfl (zbo rfl Try.underlying26 rfl (zas 1 rfl)) ?_))))
 refine zbw rfl rfl rfl rfl rfl rfl (fun h7 => ?_) (fun h7 => ?_)
 ·
  refine zac [32, 12, 11, 10, 9, 8, 4, 3, 2, 1, 0] rfl (zae (zaa (zbb rfl (zaz (zaa ?_)))))
  refine zaf (zax ?_)
  have hci := hcr _ (zcf (d := (0 : Int)) (show i < cs.length by omega))
  rcases Bool.eq_false_or_eq_true ((cs.getD i 0) == node) with hb8 | hb8
  ·
   have hb8p : cs.getD i 0 = node := beq_iff_eq.1 hb8
   have hci := hcr _ (zcf (d := (0 : Int)) (show i < cs.length by omega))
   refine zca 23 [[], [], [], [1, 2], [3], [], [], [5, 6], [7], [], [8, 9], [10], [11], [11], [11], [11], [11], [11], [11], [11], [11], [11, 20], [0, 4]] [35, 36, 37, 38, 39, 40, 41, 42, 43, 44, 45, 46, 47, 48, 49, 50, 51, 52, 53, 54, 55, 56, 57] [.slice (some ⟨g5, 0, none⟩) ((List.replicate (n.cnt).toNat bl0).length) ((List.replicate (n.cnt).toNat bl0).length), v2, .int .i64 (i : Int), elP v2 (((i : Int)).toNat * 1), .int .i64 (cs.getD i 0), v2, .int .i64 (i : Int), elP v2 (((i : Int)).toNat * 1), .int .i64 (cs.getD i 0), .int .i64 node, .bool true, .bool true, undef, undef, undef, undef, undef, undef, undef, undef, undef, .bool true, elP (.slice (some ⟨g5, 0, none⟩) ((List.replicate (n.cnt).toNat bl0).length) ((List.replicate (n.cnt).toNat bl0).length)) ((cs.getD i 0).toNat * 1)] (by kernel_rfl) rfl ?_ ?_
   ·
    refine ⟨?_, ?_, ?_, ?_, ?_, ?_, ?_, ?_, ?_, ?_, ?_, ?_, ?_, ?_, ?_, ?_, ?_, ?_, ?_, ?_, ?_, ?_, ?_, trivial⟩
    · exact .inl ⟨rfl, zaj (zap rfl) rfl⟩
    · exact .inl ⟨rfl, zaj (zap rfl) rfl⟩
    · exact .inl ⟨rfl, zaj (zap rfl) rfl⟩
    · exact .inl ⟨rfl, zaj (zal (s := 1) rfl Try.underlying26 (by kernel_rfl) rfl rfl (zas 1 rfl) (by omega) (by omega)) rfl⟩
    · exact .inl ⟨rfl, zaj (zam (u := .int .i64 (cs.getD i 0)) rfl (by kernel_rfl) rfl (zas 1 rfl) (zbg (show _ < cs.length by omega))) rfl⟩
    · exact .inl ⟨rfl, zaj (zap rfl) rfl⟩
    · exact .inl ⟨rfl, zaj (zap rfl) rfl⟩
    · exact .inl ⟨rfl, zaj (zal (s := 1) rfl Try.underlying26 (by kernel_rfl) rfl rfl (zas 1 rfl) (by omega) (by omega)) rfl⟩
    · exact .inl ⟨rfl, zaj (zam (u := .int .i64 (cs.getD i 0)) rfl (by kernel_rfl) rfl (zas 1 rfl) (zbg (show _ < cs.length by omega))) rfl⟩
    · exact .inl ⟨rfl, zaj (zap rfl) rfl⟩
    · exact .inl ⟨rfl, zdg (zcq rfl rfl rfl rfl) hb8⟩
    · exact .inl ⟨rfl, zaj (zap rfl) rfl⟩
    · exact .inr ⟨rfl, rfl⟩
    · exact .inr ⟨rfl, rfl⟩
    · exact .inr ⟨rfl, rfl⟩
    · exact .inr ⟨rfl, rfl⟩
    · exact .inr ⟨rfl, rfl⟩
    · exact .inr ⟨rfl, rfl⟩
    · exact .inr ⟨rfl, rfl⟩
    · exact .inr ⟨rfl, rfl⟩
    · exact .inr ⟨rfl, rfl⟩
    · exact .inl ⟨rfl, zaj (zap rfl) rfl⟩
    exact .inl ⟨rfl, zaj (zal (s := 1) rfl Try.underlying80 (by kernel_rfl) rfl rfl (zas 0 rfl) (by omega) (by omega)) rfl⟩
   refine zac [57, 56, 32, 12, 11, 10, 9, 8, 4, 3, 2, 1, 0] rfl ?_
   simp only [List.drop_succ_cons, List.drop_zero]
   refine zdp (i := 0) (n' := (us.set ((cs.getD i 0).toNat) { us.getD ((cs.getD i 0).toNat) bl0 with b := true }).length) rfl rfl rfl (by kernel_rfl) rfl rfl rfl rfl (by first | omega | (simp only [List.length_set]; omega)) List.length_set.symm (zdm blC (fun r => .bool r.b) (fun _ => rfl) _ ({ us.getD ((cs.getD i 0).toNat) bl0 with b := true }) rfl) rfl ?_
   refine zac [32, 12, 11, 10, 9, 8, 4, 3, 2, 1, 0] rfl (zae (zai (zaa (zab (zad 1 rfl ?_)))))
   refine hl_v rfl rfl rfl (zbj rfl rfl rfl (by constructor <;> omega)) (zad 1 rfl (zac [32, 12, 11, 10, 9, 8, 4, 3, 2, 1, 0] rfl (zae ?_)))
   exact zcu (i + 1) (us.set ((cs.getD i 0).toNat) { us.getD ((cs.getD i 0).toNat) bl0 with b := true }) ⟨by omega, by rw [List.length_set]; exact hul⟩ (by omega) (zan [12, 11, 10, 9, 8, 4, 3, 2, 1, 0] rfl) ((.cons_cons _ (.cons_cons _ (.cons_cons _ .slnil))))
  have hb8p : cs.getD i 0 ≠ node := beq_eq_false_iff_ne.1 hb8
  have hci := hcr _ (zcf (d := (0 : Int)) (show i < cs.length by omega))
  rcases Bool.eq_false_or_eq_true (decide (h ≤ ls.getD ((cs.getD i 0).toNat) 0)) with hb9 | hb9
  ·
   have hb9p : h ≤ ls.getD ((cs.getD i 0).toNat) 0 := of_decide_eq_true hb9
   have hci := hcr _ (zcf (d := (0 : Int)) (show i < cs.length by omega))
   refine zca 23 [[], [], [], [1, 2], [3], [], [], [5, 6], [7], [], [8, 9], [10], [11], [11], [11], [11, 13, 14], [11, 15], [11, 12, 16], [11, 17], [11], [11, 18, 19], [11, 20], [0, 4]] [35, 36, 37, 38, 39, 40, 41, 42, 43, 44, 45, 46, 47, 48, 49, 50, 51, 52, 53, 54, 55, 56, 57] [.slice (some ⟨g5, 0, none⟩) ((List.replicate (n.cnt).toNat bl0).length) ((List.replicate (n.cnt).toNat bl0).length), v2, .int .i64 (i : Int), elP v2 (((i : Int)).toNat * 1), .int .i64 (cs.getD i 0), v2, .int .i64 (i : Int), elP v2 (((i : Int)).toNat * 1), .int .i64 (cs.getD i 0), .int .i64 node, .bool false, .bool false, lv, v2, .int .i64 (i : Int), elP v2 (((i : Int)).toNat * 1), .int .i64 (cs.getD i 0), elP lv ((cs.getD i 0).toNat * 1), .int .i64 (ls.getD ((cs.getD i 0).toNat) 0), .int .i64 h, .bool true, .bool true, elP (.slice (some ⟨g5, 0, none⟩) ((List.replicate (n.cnt).toNat bl0).length) ((List.replicate (n.cnt).toNat bl0).length)) ((cs.getD i 0).toNat * 1)] (by kernel_rfl) rfl ?_ ?_
   ·
    refine ⟨?_, ?_, ?_, ?_, ?_, ?_, ?_, ?_, ?_, ?_, ?_, ?_, ?_, ?_, ?_, ?_, ?_, ?_, ?_, ?_, ?_, ?_, ?_, trivial⟩
    · exact .inl ⟨rfl, zaj (zap rfl) rfl⟩
    · exact .inl ⟨rfl, zaj (zap rfl) rfl⟩
    · exact .inl ⟨rfl, zaj (zap rfl) rfl⟩
    · exact .inl ⟨rfl, zaj (zal (s := 1) rfl Try.underlying26 (by kernel_rfl) rfl rfl (zas 1 rfl) (by omega) (by omega)) rfl⟩
    · exact .inl ⟨rfl, zaj (zam (u := .int .i64 (cs.getD i 0)) rfl (by kernel_rfl) rfl (zas 1 rfl) (zbg (show _ < cs.length by omega))) rfl⟩
    · exact .inl ⟨rfl, zaj (zap rfl) rfl⟩
    · exact .inl ⟨rfl, zaj (zap rfl) rfl⟩
    · exact .inl ⟨rfl, zaj (zal (s := 1) rfl Try.underlying26 (by kernel_rfl) rfl rfl (zas 1 rfl) (by omega) (by omega)) rfl⟩
    · exact .inl ⟨rfl, zaj (zam (u := .int .i64 (cs.getD i 0)) rfl (by kernel_rfl) rfl (zas 1 rfl) (zbg (show _ < cs.length by omega))) rfl⟩
    · exact .inl ⟨rfl, zaj (zap rfl) rfl⟩
    · exact .inl ⟨rfl, zdg (zcq rfl rfl rfl rfl) hb8⟩
    · exact .inl ⟨rfl, zaj (zap rfl) rfl⟩
    · exact .inl ⟨rfl, zaj (zap rfl) rfl⟩
    · exact .inl ⟨rfl, zaj (zap rfl) rfl⟩
    · exact .inl ⟨rfl, zaj (zap rfl) rfl⟩
    · exact .inl ⟨rfl, zaj (zal (s := 1) rfl Try.underlying26 (by kernel_rfl) rfl rfl (zas 1 rfl) (by omega) (by omega)) rfl⟩
    · exact .inl ⟨rfl, zaj (zam (u := .int .i64 (cs.getD i 0)) rfl (by kernel_rfl) rfl (zas 1 rfl) (zbg (show _ < cs.length by omega))) rfl⟩
    · exact .inl ⟨rfl, zaj (zal (s := 1) rfl Try.underlying26 (by kernel_rfl) rfl rfl (zak hl) (by omega) (by omega)) rfl⟩
    · exact .inl ⟨rfl, zaj (zam (u := .int .i64 (ls.getD ((cs.getD i 0).toNat) 0)) rfl (by kernel_rfl) rfl (zak hl) (zbg (show _ < ls.length by omega))) rfl⟩
    · exact .inl ⟨rfl, zaj (zap rfl) rfl⟩
    · exact .inl ⟨rfl, zdg (zcq rfl rfl rfl rfl) hb9⟩
    · exact .inl ⟨rfl, zaj (zap rfl) rfl⟩
    exact .inl ⟨rfl, zaj (zal (s := 1) rfl Try.underlying80 (by kernel_rfl) rfl rfl (zas 0 rfl) (by omega) (by omega)) rfl⟩
   refine zac [57, 56, 32, 12, 11, 10, 9, 8, 4, 3, 2, 1, 0] rfl ?_
   simp only [List.drop_succ_cons, List.drop_zero]
   refine zdp (i := 0) (n' := (us.set ((cs.getD i 0).toNat) { us.getD ((cs.getD i 0).toNat) bl0 with b := true }).length) rfl rfl rfl (by kernel_rfl) rfl rfl rfl rfl (by first | omega | (simp only [List.length_set]; omega)) List.length_set.symm (zdm blC (fun r => .bool r.b) (fun _ => rfl) _ ({ us.getD ((cs.getD i 0).toNat) bl0 with b := true }) rfl) rfl ?_
   refine zac [32, 12, 11, 10, 9, 8, 4, 3, 2, 1, 0] rfl (zae (zai (zaa (zab (zad 1 rfl ?_)))))
   refine hl_v rfl rfl rfl (zbj rfl rfl rfl (by constructor <;> omega)) (zad 1 rfl (zac [32, 12, 11, 10, 9, 8, 4, 3, 2, 1, 0] rfl (zae ?_)))
   exact zcu (i + 1) (us.set ((cs.getD i 0).toNat) { us.getD ((cs.getD i 0).toNat) bl0 with b := true }) ⟨by omega, by rw [List.length_set]; exact hul⟩ (by omega) (zan [12, 11, 10, 9, 8, 4, 3, 2, 1, 0] rfl) ((.cons_cons _ (.cons_cons _ (.cons_cons _ .slnil))))
  have hb9p : ¬ (h ≤ ls.getD ((cs.getD i 0).toNat) 0) := of_decide_eq_false hb9
  have hci := hcr _ (zcf (d := (0 : Int)) (show i < cs.length by omega))
  refine zca 23 [[], [], [], [1, 2], [3], [], [], [5, 6], [7], [], [8, 9], [10], [11], [11], [11], [11, 13, 14], [11, 15], [11, 12, 16], [11, 17], [11], [11, 18, 19], [11, 20], [0, 4]] [35, 36, 37, 38, 39, 40, 41, 42, 43, 44, 45, 46, 47, 48, 49, 50, 51, 52, 53, 54, 55, 56, 57] [.slice (some ⟨g5, 0, none⟩) ((List.replicate (n.cnt).toNat bl0).length) ((List.replicate (n.cnt).toNat bl0).length), v2, .int .i64 (i : Int), elP v2 (((i : Int)).toNat * 1), .int .i64 (cs.getD i 0), v2, .int .i64 (i : Int), elP v2 (((i : Int)).toNat * 1), .int .i64 (cs.getD i 0), .int .i64 node, .bool false, .bool false, lv, v2, .int .i64 (i : Int), elP v2 (((i : Int)).toNat * 1), .int .i64 (cs.getD i 0), elP lv ((cs.getD i 0).toNat * 1), .int .i64 (ls.getD ((cs.getD i 0).toNat) 0), .int .i64 h, .bool false, .bool false, elP (.slice (some ⟨g5, 0, none⟩) ((List.replicate (n.cnt).toNat bl0).length) ((List.replicate (n.cnt).toNat bl0).length)) ((cs.getD i 0).toNat * 1)] (by kernel_rfl) rfl ?_ ?_
  ·
   refine ⟨?_, ?_, ?_, ?_, ?_, ?_, ?_, ?_, ?_, ?_, ?_, ?_, ?_, ?_, ?_, ?_, ?_, ?_, ?_, ?_, ?_, ?_, ?_, trivial⟩
   · exact .inl ⟨rfl, zaj (zap rfl) rfl⟩
   · exact .inl ⟨rfl, zaj (zap rfl) rfl⟩
   · exact .inl ⟨rfl, zaj (zap rfl) rfl⟩
   · exact .inl ⟨rfl, zaj (zal (s := 1) rfl Try.underlying26 (by kernel_rfl) rfl rfl (zas 1 rfl) (by omega) (by omega)) rfl⟩
   · exact .inl ⟨rfl, zaj (zam (u := .int .i64 (cs.getD i 0)) rfl (by kernel_rfl) rfl (zas 1 rfl) (zbg (show _ < cs.length by omega))) rfl⟩
   · exact .inl ⟨rfl, zaj (zap rfl) rfl⟩
   · exact .inl ⟨rfl, zaj (zap rfl) rfl⟩
   · exact .inl ⟨rfl, zaj (zal (s := 1) rfl Try.underlying26 (by kernel_rfl) rfl rfl (zas 1 rfl) (by omega) (by omega)) rfl⟩
   · exact .inl ⟨rfl, zaj (zam (u := .int .i64 (cs.getD i 0)) rfl (by kernel_rfl) rfl (zas 1 rfl) (zbg (show _ < cs.length by omega))) rfl⟩
   · exact .inl ⟨rfl, zaj (zap rfl) rfl⟩
   · exact .inl ⟨rfl, zdg (zcq rfl rfl rfl rfl) hb8⟩
   · exact .inl ⟨rfl, zaj (zap rfl) rfl⟩
   · exact .inl ⟨rfl, zaj (zap rfl) rfl⟩
   · exact .inl ⟨rfl, zaj (zap rfl) rfl⟩
   · exact .inl ⟨rfl, zaj (zap rfl) rfl⟩
   · exact .inl ⟨rfl, zaj (zal (s := 1) rfl Try.underlying26 (by kernel_rfl) rfl rfl (zas 1 rfl) (by omega) (by omega)) rfl⟩
   · exact .inl ⟨rfl, zaj (zam (u := .int .i64 (cs.getD i 0)) rfl (by kernel_rfl) rfl (zas 1 rfl) (zbg (show _ < cs.length by omega))) rfl⟩
   · exact .inl ⟨rfl, zaj (zal (s := 1) rfl Try.underlying26 (by kernel_rfl) rfl rfl (zak hl) (by omega) (by omega)) rfl⟩
   · exact .inl ⟨rfl, zaj (zam (u := .int .i64 (ls.getD ((cs.getD i 0).toNat) 0)) rfl (by kernel_rfl) rfl (zak hl) (zbg (show _ < ls.length by omega))) rfl⟩
   · exact .inl ⟨rfl, zaj (zap rfl) rfl⟩
   · exact .inl ⟨rfl, zdg (zcq rfl rfl rfl rfl) hb9⟩
   · exact .inl ⟨rfl, zaj (zap rfl) rfl⟩
   exact .inl ⟨rfl, zaj (zal (s := 1) rfl Try.underlying80 (by kernel_rfl) rfl rfl (zas 0 rfl) (by omega) (by omega)) rfl⟩
  refine zac [57, 56, 32, 12, 11, 10, 9, 8, 4, 3, 2, 1, 0] rfl ?_
  simp only [List.drop_succ_cons, List.drop_zero]
  refine zdp (i := 0) (n' := (us.set ((cs.getD i 0).toNat) { us.getD ((cs.getD i 0).toNat) bl0 with b := false }).length) rfl rfl rfl (by kernel_rfl) rfl rfl rfl rfl (by first | omega | (simp only [List.length_set]; omega)) List.length_set.symm (zdm blC (fun r => .bool r.b) (fun _ => rfl) _ ({ us.getD ((cs.getD i 0).toNat) bl0 with b := false }) rfl) rfl ?_
  refine zac [32, 12, 11, 10, 9, 8, 4, 3, 2, 1, 0] rfl (zae (zai (zaa (zab (zad 1 rfl ?_)))))
  refine hl_v rfl rfl rfl (zbj rfl rfl rfl (by constructor <;> omega)) (zad 1 rfl (zac [32, 12, 11, 10, 9, 8, 4, 3, 2, 1, 0] rfl (zae ?_)))
  exact zcu (i + 1) (us.set ((cs.getD i 0).toNat) { us.getD ((cs.getD i 0).toNat) bl0 with b := false }) ⟨by omega, by rw [List.length_set]; exact hul⟩ (by omega) (zan [12, 11, 10, 9, 8, 4, 3, 2, 1, 0] rfl) ((.cons_cons _ (.cons_cons _ (.cons_cons _ .slnil))))
 refine zac [32, 12, 11, 10, 9, 8, 4, 3, 2, 1, 0] rfl (zae (zaa (zaq rfl ?_)))
 refine zbp ?_
 refine zah (zah ?_)
 refine zav ?_
 refine zaa (zaf (zab (hl_v rfl rfl rfl (zbc (cs := [.int .i64 n.ins, n.sv, n.av, n.ov]) rfl (by kernel_rfl) (by kernel_rfl) rfl rfl (zay 2 rfl 0 rfl)) ?_)))
 refine zbm rfl rfl rfl (zba (by kernel_rfl) rfl (fun w hm => zbk (zbs n w (hr.below hm.bel) hn))) ?_
 refine zbr rfl rfl rfl (zeu (z := .bool false) (s := 1) (bytes := 1) (n := (List.replicate (n.cnt).toNat bl0).length) (cs := ((List.replicate (n.cnt).toNat bl0).flatMap blC)) rfl Try.underlying80 (by kernel_rfl) (by decide) rfl rfl (by first | (rw [List.length_replicate]; done) | (rw [List.length_replicate]; omega)) (by first | (rw [List.length_replicate]; done) | (rw [List.length_replicate]; omega)) (by rw [List.length_replicate]; omega) (zfe blC 1 (fun _ => rfl) bl0 _ rfl (n.cnt).toNat)) ?_
 intro g10
 refine zad 1 rfl (zac [32, 13, 12, 11, 10, 9, 8, 4, 3, 2, 1, 0] rfl (zae (zaa (zaf (zab ?_)))))
 refine hl_v rfl rfl rfl (zbc (cs := [.int .i64 n.ins, n.sv, n.av, n.ov]) rfl (by kernel_rfl) (by kernel_rfl) rfl rfl (zay 3 rfl 0 rfl)) ?_
 refine zbm rfl rfl rfl (zba (by kernel_rfl) rfl (fun w hm => zbk (zbs n w (hr.below hm.bel) hn))) ?_
 refine zbr rfl rfl rfl (zeu (z := .int .i64 0) (s := 1) (bytes := 8) (n := (List.replicate (n.cnt).toNat (0 : Int)).length) (cs := ((List.replicate (n.cnt).toNat (0 : Int)).map (Value.int .i64))) rfl Try.underlying26 (by kernel_rfl) (by decide) rfl rfl (by first | (rw [List.length_replicate]; done) | (rw [List.length_replicate]; omega)) (by first | (rw [List.length_replicate]; done) | (rw [List.length_replicate]; omega)) (by rw [List.length_replicate]; omega) (zfr _)) ?_
 intro g11
 refine zad 1 rfl (zac [32, 14, 13, 12, 11, 10, 9, 8, 4, 3, 2, 1, 0] rfl (zae (zaa (zaf (zab ?_)))))
 refine zbr rfl rfl rfl (zcr (s := 1) rfl Try.underlying26 (by kernel_rfl)) ?_
 intro g12
 refine zad 1 rfl (zac [32, 15, 14, 13, 12, 11, 10, 9, 8, 4, 3, 2, 1, 0] rfl (zae (zaa (zaf (zaf ?_)))))
 refine zab (zad 1 rfl (zac [32, 16, 15, 14, 13, 12, 11, 10, 9, 8, 4, 3, 2, 1, 0] rfl (zae (zaa (zax ?_)))))
 refine zed (α := Nat) (fun k => [rowE 3 1 (.slice (some ⟨g12, 0, none⟩) 0 0) 0 ([]), rowE 3 1 (.slice (some ⟨g11, 0, none⟩) ((List.replicate (n.cnt).toNat (0 : Int)).length) ((List.replicate (n.cnt).toNat (0 : Int)).length)) ((List.replicate (n.cnt).toNat (0 : Int)).length) ((List.replicate (n.cnt).toNat (0 : Int)).map (Value.int .i64)), rowE 4 1 (.slice (some ⟨g10, 0, none⟩) ((List.replicate (n.cnt).toNat bl0).length) ((List.replicate (n.cnt).toNat bl0).length)) ((List.replicate (n.cnt).toNat bl0).length) ((List.replicate (n.cnt).toNat bl0).flatMap blC), rowE 4 1 (.slice (some ⟨g5, 0, none⟩) ((List.replicate (n.cnt).toNat bl0).length) ((List.replicate (n.cnt).toNat bl0).length)) us.length (us.flatMap blC), rowE 3 1 v2 cs.length (cs.map (Value.int .i64)), boxE b1 #[.int .i64 n.ins, n.sv, n.av, n.ov] 101]) (fun k => [(0, .agg #[.int .i64 n.ins, n.sv, n.av, n.ov]), (1, lv), (2, .int .i64 node), (3, .int .i64 h), (4, .pointer (some ⟨b1, 0, none⟩)), (8, .slice none 0 0), (9, .bool false), (10, v2), (11, .slice (some ⟨g5, 0, none⟩) ((List.replicate (n.cnt).toNat bl0).length) ((List.replicate (n.cnt).toNat bl0).length)), (13, .slice (some ⟨g10, 0, none⟩) ((List.replicate (n.cnt).toNat bl0).length) ((List.replicate (n.cnt).toNat bl0).length)), (14, .slice (some ⟨g11, 0, none⟩) ((List.replicate (n.cnt).toNat (0 : Int)).length) ((List.replicate (n.cnt).toNat (0 : Int)).length)), (15, .slice (some ⟨g12, 0, none⟩) 0 0), (16, .int .i64 (k : Int)), (32, .bool false)]) (fun k => (k : Int) ≤ n.fst) (fun k => n.fst.toNat - k) 0 (by omega) (zan [32, 16, 15, 14, 13, 11, 10, 9, 8, 4, 3, 2, 1, 0] rfl) ((.cons_cons _ (.cons_cons _ (.cons_cons _ (.cons_cons _ (.cons_cons _ (.cons_cons _ .slnil))))))) ?_
 intro k hi13
 have hk := hi13
 refine zaf (zaf (zab (zad 1 rfl (hl_v rfl rfl rfl (zbc (cs := [.int .i64 n.ins, n.sv, n.av, n.ov]) rfl (by kernel_rfl) (by kernel_rfl) rfl rfl (zay 5 rfl 0 rfl)) ?_))))
 refine zbm rfl rfl rfl (zba (by kernel_rfl) rfl (fun w hm => zbk (zbv n w (hr.below hm.bel) hn))) ?_
 refine zbw rfl rfl rfl rfl rfl rfl (fun h14 => ?_) (fun h14 => ?_)
 ·
  refine zac [68, 32, 16, 15, 14, 13, 11, 10, 9, 8, 4, 3, 2, 1, 0] rfl (zae (zaa (zbb rfl (zaz (zaa ?_)))))
  refine zaf (zax (zaf (zab (zad 2 rfl (hl_v rfl rfl rfl (zal (s := 1) rfl Try.underlying80 (by kernel_rfl) rfl rfl (zas 3 rfl) (by omega) (by omega)) ?_)))))
  refine hl_v rfl rfl rfl (zam (u := .bool ((us.getD k bl0).b)) rfl (by kernel_rfl) rfl (zas 3 rfl) (zbz blC (fun r => .bool r.b) (fun _ => rfl) us bl0 (show k < _ by omega))) ?_
  refine zck (fun h15 => ?_) (fun h15 => ?_)
  ·
   refine zac [74, 68, 32, 16, 15, 14, 13, 11, 10, 9, 8, 4, 3, 2, 1, 0] rfl (zae (zaa (zbb rfl (zaf (zab ?_)))))
   refine zad 3 rfl (zac [74, 68, 32, 16, 15, 14, 13, 11, 10, 9, 8, 4, 3, 2, 1, 0] rfl (zae (zaa ?_)))
   refine zbl ?_
   refine zbf ?_
   refine zao (zao ?_)
   refine zbf ?_
   refine zao ?_
   exact zde (rs := [.tmp 8, .tmp 9]) (vs := [.slice (some ⟨g12, 0, none⟩) 0 0, .bool false]) (post := [rowE 3 1 (.slice (some ⟨g12, 0, none⟩) 0 0) 0 ([])]) rfl ⟨rfl, rfl, trivial⟩ rfl ((.cons_cons _ (.cons _ (.cons _ (.cons _ (.cons _ (.cons _ .slnil))))))) ⟨[], _, _, rfl, rfl, by simp; omega, fun x hx => by cases hx⟩
  refine zac [74, 68, 32, 16, 15, 14, 13, 11, 10, 9, 8, 4, 3, 2, 1, 0] rfl (zae (zaa (zaq rfl (zaz (zai ?_)))))
  refine zaa (zab (zad 1 rfl (hl_v rfl rfl rfl (zbj rfl rfl rfl (by constructor <;> omega)) (zad 1 rfl (zac [74, 68, 32, 16, 15, 14, 13, 11, 10, 9, 8, 4, 3, 2, 1, 0] rfl ?_)))))
  refine zae ?_
  exact zdh (k + 1) (by omega) (by omega) (zan [32, 16, 15, 14, 13, 11, 10, 9, 8, 4, 3, 2, 1, 0] rfl) ((.cons_cons _ (.cons_cons _ (.cons_cons _ (.cons_cons _ (.cons_cons _ (.cons_cons _ .slnil)))))))
 refine zac [68, 32, 16, 15, 14, 13, 11, 10, 9, 8, 4, 3, 2, 1, 0] rfl (zae (zaa (zaq rfl ?_)))
 refine zbp ?_
 refine zah (zah ?_)
 refine zav ?_
 refine zaa (zaf (zaf (zab (zad 1 rfl (zac [68, 32, 17, 16, 15, 14, 13, 11, 10, 9, 8, 4, 3, 2, 1, 0] rfl ?_)))))
 refine zae (zaa (zax ?_))
 refine zcy (α := Nat) (β := List Bl) (γ := List Int) (fun f ds ab => [rowE 3 1 (.slice (some ⟨g12, 0, none⟩) 0 0) 0 ([]), rowE 3 1 (.slice (some ⟨g11, 0, none⟩) ((List.replicate (n.cnt).toNat (0 : Int)).length) ((List.replicate (n.cnt).toNat (0 : Int)).length)) ab.length (ab.map (Value.int .i64)), rowE 4 1 (.slice (some ⟨g10, 0, none⟩) ((List.replicate (n.cnt).toNat bl0).length) ((List.replicate (n.cnt).toNat bl0).length)) ds.length (ds.flatMap blC), rowE 4 1 (.slice (some ⟨g5, 0, none⟩) ((List.replicate (n.cnt).toNat bl0).length) ((List.replicate (n.cnt).toNat bl0).length)) us.length (us.flatMap blC), rowE 3 1 v2 cs.length (cs.map (Value.int .i64)), boxE b1 #[.int .i64 n.ins, n.sv, n.av, n.ov] 101]) (fun f ds ab => [(0, .agg #[.int .i64 n.ins, n.sv, n.av, n.ov]), (1, lv), (2, .int .i64 node), (3, .int .i64 h), (4, .pointer (some ⟨b1, 0, none⟩)), (8, .slice none 0 0), (9, .bool false), (10, v2), (11, .slice (some ⟨g5, 0, none⟩) ((List.replicate (n.cnt).toNat bl0).length) ((List.replicate (n.cnt).toNat bl0).length)), (13, .slice (some ⟨g10, 0, none⟩) ((List.replicate (n.cnt).toNat bl0).length) ((List.replicate (n.cnt).toNat bl0).length)), (14, .slice (some ⟨g11, 0, none⟩) ((List.replicate (n.cnt).toNat (0 : Int)).length) ((List.replicate (n.cnt).toNat (0 : Int)).length)), (15, .slice (some ⟨g12, 0, none⟩) 0 0), (17, .int .i64 (f : Int)), (32, .bool false), (68, .bool false)]) (fun f ds ab => f ≤ 5 ∧ ds.length = n.cnt.toNat ∧ AbOk n.cnt ab) (fun f ds ab => 5 - f) 0 _ _ ⟨by omega, by rw [List.length_replicate], AbOk.start (by omega)⟩ (zan [68, 32, 17, 15, 14, 13, 11, 10, 9, 8, 4, 3, 2, 1, 0] rfl) ((.cons_cons _ (.cons_cons _ (.cons_cons _ (.cons_cons _ (.cons_cons _ (.cons_cons _ .slnil))))))) ?_
 intro f ds ab hi16
 obtain ⟨hf, hdl, hab⟩ := hi16
 have hab1 := hab.1
 refine zaf (zaf (zab (zad 1 rfl ?_)))
 refine hl_leq rfl rfl rfl rfl rfl rfl (fun h17 => ?_) (fun h17 => ?_)
 ·
  refine zac [77, 68, 32, 17, 15, 14, 13, 11, 10, 9, 8, 4, 3, 2, 1, 0] rfl (zae (zaa (zbb rfl (zaz (zaa ?_)))))
  refine zaf (zax (zaf (zab (hl_v rfl rfl rfl (zbc (cs := [.int .i64 n.ins, n.sv, n.av, n.ov]) rfl (by kernel_rfl) (by kernel_rfl) rfl rfl (zay 5 rfl 0 rfl)) (zad 3 rfl ?_)))))
  refine hl_q rfl rfl rfl (zba (by kernel_rfl) rfl (fun w hm => Search_ret n us ds ab _ _ _ w (hr.below hm.bel) hn ((zas 3 rfl) w hm) (by omega) ((zas 2 rfl) w hm) (by omega) ((zas 1 rfl) w hm) hab)) ?_
  intro v18 p19 hR20
  obtain ⟨bs, bv, at1, rfl, rfl, hbk, hat0, hat1⟩ := hR20
  obtain ⟨r, hrk⟩ := hbk.rank
  have hbl := hbk.len
  refine zad 5 rfl (zac [77, 68, 32, 19, 18, 17, 15, 14, 13, 11, 10, 9, 8, 4, 3, 2, 1, 0] rfl (zae (zaa (zaf (zaf ?_)))))
  refine zab (zad 1 rfl ?_)
  refine zbw rfl rfl rfl rfl rfl rfl (fun h21 => ?_) (fun h21 => ?_)
  ·
   refine zac [89, 77, 68, 32, 19, 18, 17, 15, 14, 13, 11, 10, 9, 8, 4, 3, 2, 1, 0] rfl (zae (zaa (zbb rfl (zaf (zaf ?_)))))
   refine zab (zad 1 rfl (zac [89, 77, 68, 32, 20, 19, 18, 17, 15, 14, 13, 11, 10, 9, 8, 4, 3, 2, 1, 0] rfl (zae (zaa (zax ?_)))))
   refine zcy (α := Nat) (β := Value) (γ := List Int) (fun k8 ov os => [rowE 3 1 bv bs.length (bs.map (Value.int .i64)), rowE 3 1 ov os.length (os.map (Value.int .i64)), rowE 3 1 (.slice (some ⟨g11, 0, none⟩) ((List.replicate (n.cnt).toNat (0 : Int)).length) ((List.replicate (n.cnt).toNat (0 : Int)).length)) ab.length (ab.map (Value.int .i64)), rowE 4 1 (.slice (some ⟨g10, 0, none⟩) ((List.replicate (n.cnt).toNat bl0).length) ((List.replicate (n.cnt).toNat bl0).length)) ds.length (ds.flatMap blC), rowE 4 1 (.slice (some ⟨g5, 0, none⟩) ((List.replicate (n.cnt).toNat bl0).length) ((List.replicate (n.cnt).toNat bl0).length)) us.length (us.flatMap blC), rowE 3 1 v2 cs.length (cs.map (Value.int .i64)), boxE b1 #[.int .i64 n.ins, n.sv, n.av, n.ov] 101]) (fun k8 ov os => [(0, .agg #[.int .i64 n.ins, n.sv, n.av, n.ov]), (1, lv), (2, .int .i64 node), (3, .int .i64 h), (4, .pointer (some ⟨b1, 0, none⟩)), (8, .slice none 0 0), (9, .bool false), (10, v2), (11, .slice (some ⟨g5, 0, none⟩) ((List.replicate (n.cnt).toNat bl0).length) ((List.replicate (n.cnt).toNat bl0).length)), (13, .slice (some ⟨g10, 0, none⟩) ((List.replicate (n.cnt).toNat bl0).length) ((List.replicate (n.cnt).toNat bl0).length)), (14, .slice (some ⟨g11, 0, none⟩) ((List.replicate (n.cnt).toNat (0 : Int)).length) ((List.replicate (n.cnt).toNat (0 : Int)).length)), (15, ov), (17, .int .i64 (f : Int)), (18, bv), (19, .int .i64 at1), (20, .int .i64 (k8 : Int)), (32, .bool false), (68, .bool false), (77, .bool true), (89, .bool true)]) (fun k8 ov os => (k8 : Int) ≤ n.cnt ∧ os.length ≤ k8 ∧ ∀ x ∈ os, 0 ≤ x ∧ x < n.cnt) (fun k8 ov os => n.cnt.toNat - k8) 0 _ [] ⟨by omega, by simp, fun x hx => by cases hx⟩ (zan [89, 77, 68, 32, 20, 19, 18, 17, 15, 14, 13, 11, 10, 9, 8, 4, 3, 2, 1, 0] rfl) ((.cons_cons _ (.cons_cons _ (.cons_cons _ (.cons_cons _ (.cons_cons _ (.cons_cons _ (.cons_cons _ .slnil)))))))) ?_
   intro k8 ov os hi22
   obtain ⟨hk8, hol, hor⟩ := hi22
   refine zaf (zaf (zab (zad 1 rfl (hl_v rfl rfl rfl (zbc (cs := [.int .i64 n.ins, n.sv, n.av, n.ov]) rfl (by kernel_rfl) (by kernel_rfl) rfl rfl (zay 6 rfl 0 rfl)) ?_))))
   refine zbm rfl rfl rfl (zba (by kernel_rfl) rfl (fun w hm => zbk (zbs n w (hr.below hm.bel) hn))) ?_
   refine zbw rfl rfl rfl rfl rfl rfl (fun h23 => ?_) (fun h23 => ?_)
   ·
    refine zac [93, 89, 77, 68, 32, 20, 19, 18, 17, 15, 14, 13, 11, 10, 9, 8, 4, 3, 2, 1, 0] rfl (zae (zaa (zbb rfl (zaz (zaa ?_)))))
    refine zaf (zax (zaf (zab (zad 2 rfl (hl_v rfl rfl rfl (zeq rfl rfl rfl (by constructor <;> omega)) ?_)))))
    refine hl_v rfl rfl rfl (zal (s := 1) rfl Try.underlying26 (by kernel_rfl) rfl rfl (zas 0 rfl) (by omega) (by omega)) (hl_v rfl rfl rfl (zam (u := .int .i64 (bs.getD ((2 * (k8 : Int)).toNat) 0)) rfl (by kernel_rfl) rfl (zas 0 rfl) (zbg (show _ < bs.length by omega))) ?_)
    refine hl_neq rfl rfl rfl rfl rfl rfl (fun h24 => ?_) (fun h24 => ?_)
    ·
     refine zad 3 rfl (hl_v rfl rfl rfl (zeq rfl rfl rfl (by constructor <;> omega)) (hl_v rfl rfl rfl (zbj rfl rfl rfl (by constructor <;> omega)) (hl_v rfl rfl rfl (zal (s := 1) rfl Try.underlying26 (by kernel_rfl) rfl rfl (zas 0 rfl) (by omega) (by omega)) (hl_v rfl rfl rfl (zam (u := .int .i64 (bs.getD (((2 * (k8 : Int)) + 1).toNat) 0)) rfl (by kernel_rfl) rfl (zas 0 rfl) (zbg (show _ < bs.length by omega))) ?_))))
     refine zdi rfl rfl rfl rfl rfl rfl (fun h25 => ?_) (fun h25 => ?_)
     ·
      refine zad 1 rfl (zac [110, 93, 89, 77, 68, 32, 20, 19, 18, 17, 15, 14, 13, 11, 10, 9, 8, 4, 3, 2, 1, 0] rfl (zae (zaa (zbb rfl (zab ?_)))))
      refine zad 2 rfl ?_
      refine zbr rfl rfl rfl (zbe (z := .int .i64 0) (s := 1) (cs := ([(k8 : Int)].map (Value.int .i64))) rfl Try.underlying26 (by kernel_rfl) (by decide) rfl (by kernel_rfl) rfl) ?_
      intro g26
      refine zco (i := 2) (z := .int .i64 0) (bytes := 8) rfl rfl rfl rfl Try.underlying26 (by kernel_rfl) (by kernel_rfl) rfl rfl rfl (zas 0 rfl) (zcd _) (by first | omega | (simp; done) | (simp; omega)) (zcb os ([(k8 : Int)])) (zcv os ([(k8 : Int)])) (fun _ => rfl) ?_
      intro v27
      refine zad 1 rfl (zac [110, 93, 89, 77, 68, 32, 20, 19, 18, 17, 15, 14, 13, 11, 10, 9, 8, 4, 3, 2, 1, 0] rfl (zae (zai (zaa (zab ?_)))))
      refine zad 1 rfl (hl_v rfl rfl rfl (zbj rfl rfl rfl (by constructor <;> omega)) (zad 1 rfl (zac [110, 93, 89, 77, 68, 32, 20, 19, 18, 17, 15, 14, 13, 11, 10, 9, 8, 4, 3, 2, 1, 0] rfl (zae ?_))))
      exact zce (k8 + 1) v27 (os ++ ([(k8 : Int)])) ⟨by omega, by rw [List.length_append, List.length_singleton]; omega, two_rng hor (by omega)⟩ (by omega) (zan [89, 77, 68, 32, 20, 19, 18, 17, 15, 14, 13, 11, 10, 9, 8, 4, 3, 2, 1, 0] rfl) ((.cons _ (.cons_cons _ (.cons_cons _ (.cons_cons _ (.cons_cons _ (.cons_cons _ (.cons_cons _ (.cons_cons _ .slnil)))))))))
     refine zad 1 rfl (zac [110, 93, 89, 77, 68, 32, 20, 19, 18, 17, 15, 14, 13, 11, 10, 9, 8, 4, 3, 2, 1, 0] rfl (zae (zaa (zaq rfl (zaz ?_)))))
     refine zai (zaa (zab (zad 1 rfl (hl_v rfl rfl rfl (zbj rfl rfl rfl (by constructor <;> omega)) (zad 1 rfl ?_)))))
     refine zac [110, 93, 89, 77, 68, 32, 20, 19, 18, 17, 15, 14, 13, 11, 10, 9, 8, 4, 3, 2, 1, 0] rfl (zae ?_)
     exact zce (k8 + 1) ov os ⟨by omega, by omega, hor⟩ (by omega) (zan [89, 77, 68, 32, 20, 19, 18, 17, 15, 14, 13, 11, 10, 9, 8, 4, 3, 2, 1, 0] rfl) ((.cons_cons _ (.cons_cons _ (.cons_cons _ (.cons_cons _ (.cons_cons _ (.cons_cons _ (.cons_cons _ .slnil))))))))
    refine zad 3 rfl (zbi rfl rfl rfl (zbi rfl rfl rfl (zbi rfl rfl rfl (zbi rfl rfl rfl (zbi rfl rfl rfl ?_)))))
    refine zad 1 rfl (zac [110, 93, 89, 77, 68, 32, 20, 19, 18, 17, 15, 14, 13, 11, 10, 9, 8, 4, 3, 2, 1, 0] rfl (zae (zaa (zaq rfl (zaz ?_)))))
    refine zai (zaa (zab (zad 1 rfl (hl_v rfl rfl rfl (zbj rfl rfl rfl (by constructor <;> omega)) (zad 1 rfl ?_)))))
    refine zac [110, 93, 89, 77, 68, 32, 20, 19, 18, 17, 15, 14, 13, 11, 10, 9, 8, 4, 3, 2, 1, 0] rfl (zae ?_)
    exact zce (k8 + 1) ov os ⟨by omega, by omega, hor⟩ (by omega) (zan [89, 77, 68, 32, 20, 19, 18, 17, 15, 14, 13, 11, 10, 9, 8, 4, 3, 2, 1, 0] rfl) ((.cons_cons _ (.cons_cons _ (.cons_cons _ (.cons_cons _ (.cons_cons _ (.cons_cons _ (.cons_cons _ .slnil))))))))
   refine zac [93, 89, 77, 68, 32, 20, 19, 18, 17, 15, 14, 13, 11, 10, 9, 8, 4, 3, 2, 1, 0] rfl (zae (zaa (zaq rfl ?_)))
   refine zbp ?_
   refine zah (zah ?_)
   refine zav ?_
   refine zaa (zaf (zab (zad 3 rfl (zac [93, 89, 77, 68, 32, 20, 19, 18, 17, 15, 14, 13, 11, 10, 9, 8, 4, 3, 2, 1, 0] rfl (zae ?_)))))
   refine zaa ?_
   refine zbl ?_
   refine zao ?_
   refine zbf ?_
   refine zao (zao ?_)
   refine zbf ?_
   refine zao ?_
   exact zde (rs := [.tmp 8, .tmp 9]) (vs := [ov, .bool true]) (post := [rowE 3 1 ov os.length (os.map (Value.int .i64))]) rfl ⟨rfl, rfl, trivial⟩ rfl ((.cons _ (.cons_cons _ (.cons _ (.cons _ (.cons _ (.cons _ (.cons _ .slnil)))))))) ⟨os, _, _, rfl, rfl, by omega, hor⟩
  refine zac [89, 77, 68, 32, 19, 18, 17, 15, 14, 13, 11, 10, 9, 8, 4, 3, 2, 1, 0] rfl (zae (zaa (zaq rfl (zaz (zaa ?_)))))
  refine zax ?_
  refine zcy (α := Int) (β := List Bl) (γ := List Int) (fun a ds2 ab2 => [rowE 3 1 bv bs.length (bs.map (Value.int .i64)), rowE 3 1 (.slice (some ⟨g12, 0, none⟩) 0 0) 0 ([]), rowE 3 1 (.slice (some ⟨g11, 0, none⟩) ((List.replicate (n.cnt).toNat (0 : Int)).length) ((List.replicate (n.cnt).toNat (0 : Int)).length)) ab2.length (ab2.map (Value.int .i64)), rowE 4 1 (.slice (some ⟨g10, 0, none⟩) ((List.replicate (n.cnt).toNat bl0).length) ((List.replicate (n.cnt).toNat bl0).length)) ds2.length (ds2.flatMap blC), rowE 4 1 (.slice (some ⟨g5, 0, none⟩) ((List.replicate (n.cnt).toNat bl0).length) ((List.replicate (n.cnt).toNat bl0).length)) us.length (us.flatMap blC), rowE 3 1 v2 cs.length (cs.map (Value.int .i64)), boxE b1 #[.int .i64 n.ins, n.sv, n.av, n.ov] 101]) (fun a ds2 ab2 => [(0, .agg #[.int .i64 n.ins, n.sv, n.av, n.ov]), (1, lv), (2, .int .i64 node), (3, .int .i64 h), (4, .pointer (some ⟨b1, 0, none⟩)), (8, .slice none 0 0), (9, .bool false), (10, v2), (11, .slice (some ⟨g5, 0, none⟩) ((List.replicate (n.cnt).toNat bl0).length) ((List.replicate (n.cnt).toNat bl0).length)), (13, .slice (some ⟨g10, 0, none⟩) ((List.replicate (n.cnt).toNat bl0).length) ((List.replicate (n.cnt).toNat bl0).length)), (14, .slice (some ⟨g11, 0, none⟩) ((List.replicate (n.cnt).toNat (0 : Int)).length) ((List.replicate (n.cnt).toNat (0 : Int)).length)), (15, .slice (some ⟨g12, 0, none⟩) 0 0), (17, .int .i64 (f : Int)), (18, bv), (19, .int .i64 a), (32, .bool false), (68, .bool false), (77, .bool true), (89, .bool false)]) (fun a ds2 ab2 => -2 ≤ a ∧ a < 2 * n.cnt ∧ ds2.length = n.cnt.toNat ∧ AbOk n.cnt ab2) (fun a ds2 ab2 => (if 0 ≤ a then r a.toNat + 1 else 0)) at1 ds ab ⟨by omega, by omega, hdl, hab⟩ (zan [89, 77, 68, 32, 19, 18, 17, 15, 14, 13, 11, 10, 9, 8, 4, 3, 2, 1, 0] rfl) ((.cons_cons _ (.cons_cons _ (.cons_cons _ (.cons_cons _ (.cons_cons _ (.cons_cons _ (.cons_cons _ .slnil)))))))) ?_
  intro a ds2 ab2 hi28
  obtain ⟨ha0, ha1, hdl2, hab2⟩ := hi28
  have hab21 := hab2.1
  refine zaf (zaf (zab (zad 1 rfl ?_)))
  refine zey rfl rfl rfl rfl rfl rfl (fun h29 => ?_) (fun h29 => ?_)
  ·
   refine zac [117, 89, 77, 68, 32, 19, 18, 17, 15, 14, 13, 11, 10, 9, 8, 4, 3, 2, 1, 0] rfl (zae (zaa (zbb rfl (zaz (zaa ?_)))))
   refine zax (zaf (zab ?_))
   have hbr := hbk.rng a.toNat (by omega)
   refine hl_v rfl rfl rfl (zap rfl) (zad 1 rfl (hl_v rfl rfl rfl (zal (s := 1) rfl Try.underlying26 (by kernel_rfl) rfl rfl (zas 0 rfl) (by omega) (by omega)) (hl_v rfl rfl rfl (zam (u := .int .i64 (bs.getD ((a).toNat) 0)) rfl (by kernel_rfl) rfl (zas 0 rfl) (zbg (show _ < bs.length by omega))) (zad 1 rfl (zac [117, 89, 77, 68, 32, 21, 19, 18, 17, 15, 14, 13, 11, 10, 9, 8, 4, 3, 2, 1, 0] rfl ?_)))))
   refine zae (zaa (zaf (zab (zad 1 rfl ?_))))
   refine hl_v rfl rfl rfl (zee rfl rfl rfl (by refine ⟨?_, ?_, ?_⟩ <;> omega)) ?_
   refine zad 1 rfl (zac [117, 89, 77, 68, 32, 22, 21, 19, 18, 17, 15, 14, 13, 11, 10, 9, 8, 4, 3, 2, 1, 0] rfl (zae (zaa ?_)))
   refine hc_meet2 (α := List Bl) (β := List Int) (fun ds3 ab3 => [rowE 3 1 bv bs.length (bs.map (Value.int .i64)), rowE 3 1 (.slice (some ⟨g12, 0, none⟩) 0 0) 0 ([]), rowE 3 1 (.slice (some ⟨g11, 0, none⟩) ((List.replicate (n.cnt).toNat (0 : Int)).length) ((List.replicate (n.cnt).toNat (0 : Int)).length)) ab3.length (ab3.map (Value.int .i64)), rowE 4 1 (.slice (some ⟨g10, 0, none⟩) ((List.replicate (n.cnt).toNat bl0).length) ((List.replicate (n.cnt).toNat bl0).length)) ds3.length (ds3.flatMap blC), rowE 4 1 (.slice (some ⟨g5, 0, none⟩) ((List.replicate (n.cnt).toNat bl0).length) ((List.replicate (n.cnt).toNat bl0).length)) us.length (us.flatMap blC), rowE 3 1 v2 cs.length (cs.map (Value.int .i64)), boxE b1 #[.int .i64 n.ins, n.sv, n.av, n.ov] 101]) (fun ds3 ab3 => [(0, .agg #[.int .i64 n.ins, n.sv, n.av, n.ov]), (1, lv), (2, .int .i64 node), (3, .int .i64 h), (4, .pointer (some ⟨b1, 0, none⟩)), (8, .slice none 0 0), (9, .bool false), (10, v2), (11, .slice (some ⟨g5, 0, none⟩) ((List.replicate (n.cnt).toNat bl0).length) ((List.replicate (n.cnt).toNat bl0).length)), (13, .slice (some ⟨g10, 0, none⟩) ((List.replicate (n.cnt).toNat bl0).length) ((List.replicate (n.cnt).toNat bl0).length)), (14, .slice (some ⟨g11, 0, none⟩) ((List.replicate (n.cnt).toNat (0 : Int)).length) ((List.replicate (n.cnt).toNat (0 : Int)).length)), (15, .slice (some ⟨g12, 0, none⟩) 0 0), (17, .int .i64 (f : Int)), (18, bv), (19, .int .i64 a), (21, .int .i64 (bs.getD ((a).toNat) 0)), (22, .int .i64 (a / 2)), (32, .bool false), (68, .bool false), (77, .bool true), (89, .bool false), (117, .bool true)]) (fun ds3 ab3 => ds3.length = n.cnt.toNat ∧ AbOk n.cnt ab3) ?_ ?_
   ·
    refine zaf (zab (zad 1 rfl (hl_v rfl rfl rfl (rv_rem rfl rfl rfl (by constructor <;> omega)) ?_)))
    refine zdi rfl rfl rfl rfl rfl rfl (fun h30 => ?_) (fun h30 => ?_)
    ·
     refine zad 3 rfl (hl_v rfl rfl rfl (zdb rfl rfl rfl (by constructor <;> omega)) ?_)
     refine zdi rfl rfl rfl rfl rfl rfl (fun h31 => ?_) (fun h31 => ?_)
     ·
      refine zad 1 rfl (zac [132, 117, 89, 77, 68, 32, 22, 21, 19, 18, 17, 15, 14, 13, 11, 10, 9, 8, 4, 3, 2, 1, 0] rfl (zae (zaa (zbb rfl (zab ?_)))))
      refine zad 2 rfl (hl_v rfl rfl rfl (zal (s := 1) rfl Try.underlying80 (by kernel_rfl) rfl rfl (zas 3 rfl) (by omega) (by omega)) ?_)
      refine zdp (i := 3) (n' := (ds2.set ((a / 2).toNat) { ds2.getD ((a / 2).toNat) bl0 with b := true }).length) rfl rfl rfl (by kernel_rfl) rfl rfl rfl rfl (by first | omega | (simp only [List.length_set]; omega)) List.length_set.symm (zdm blC (fun r => .bool r.b) (fun _ => rfl) _ ({ ds2.getD ((a / 2).toNat) bl0 with b := true }) rfl) rfl ?_
      refine zac [132, 117, 89, 77, 68, 32, 22, 21, 19, 18, 17, 15, 14, 13, 11, 10, 9, 8, 4, 3, 2, 1, 0] rfl (zae ?_)
      exact zds (ds2.set ((a / 2).toNat) { ds2.getD ((a / 2).toNat) bl0 with b := true }) ab2 ⟨by first | omega | (simp only [List.length_set]; omega), hab2⟩ (zan [117, 89, 77, 68, 32, 22, 21, 19, 18, 17, 15, 14, 13, 11, 10, 9, 8, 4, 3, 2, 1, 0] rfl) ((.cons_cons _ (.cons_cons _ (.cons_cons _ (.cons_cons _ (.cons_cons _ (.cons_cons _ (.cons_cons _ .slnil))))))))
     refine zad 1 rfl (zac [132, 117, 89, 77, 68, 32, 22, 21, 19, 18, 17, 15, 14, 13, 11, 10, 9, 8, 4, 3, 2, 1, 0] rfl (zae (zaa (zaq rfl (zaz ?_)))))
     exact zds ds2 ab2 ⟨by first | omega | (simp only [List.length_set]; omega), hab2⟩ (zan [117, 89, 77, 68, 32, 22, 21, 19, 18, 17, 15, 14, 13, 11, 10, 9, 8, 4, 3, 2, 1, 0] rfl) ((.cons_cons _ (.cons_cons _ (.cons_cons _ (.cons_cons _ (.cons_cons _ (.cons_cons _ (.cons_cons _ .slnil))))))))
    refine zad 3 rfl (zbi rfl rfl rfl (zbi rfl rfl rfl (zad 1 rfl (zac [132, 117, 89, 77, 68, 32, 22, 21, 19, 18, 17, 15, 14, 13, 11, 10, 9, 8, 4, 3, 2, 1, 0] rfl (zae ?_)))))
    refine zaa (zaq rfl (zaz ?_))
    exact zds ds2 ab2 ⟨by first | omega | (simp only [List.length_set]; omega), hab2⟩ (zan [117, 89, 77, 68, 32, 22, 21, 19, 18, 17, 15, 14, 13, 11, 10, 9, 8, 4, 3, 2, 1, 0] rfl) ((.cons_cons _ (.cons_cons _ (.cons_cons _ (.cons_cons _ (.cons_cons _ (.cons_cons _ (.cons_cons _ .slnil))))))))
   intro ds3 ab3 hm32
   obtain ⟨hdl3, hab3⟩ := hm32
   have hab31 := hab3.1
   refine hc_meet2 (α := List Bl) (β := List Int) (fun ds4 ab4 => [rowE 3 1 bv bs.length (bs.map (Value.int .i64)), rowE 3 1 (.slice (some ⟨g12, 0, none⟩) 0 0) 0 ([]), rowE 3 1 (.slice (some ⟨g11, 0, none⟩) ((List.replicate (n.cnt).toNat (0 : Int)).length) ((List.replicate (n.cnt).toNat (0 : Int)).length)) ab4.length (ab4.map (Value.int .i64)), rowE 4 1 (.slice (some ⟨g10, 0, none⟩) ((List.replicate (n.cnt).toNat bl0).length) ((List.replicate (n.cnt).toNat bl0).length)) ds4.length (ds4.flatMap blC), rowE 4 1 (.slice (some ⟨g5, 0, none⟩) ((List.replicate (n.cnt).toNat bl0).length) ((List.replicate (n.cnt).toNat bl0).length)) us.length (us.flatMap blC), rowE 3 1 v2 cs.length (cs.map (Value.int .i64)), boxE b1 #[.int .i64 n.ins, n.sv, n.av, n.ov] 101]) (fun ds4 ab4 => [(0, .agg #[.int .i64 n.ins, n.sv, n.av, n.ov]), (1, lv), (2, .int .i64 node), (3, .int .i64 h), (4, .pointer (some ⟨b1, 0, none⟩)), (8, .slice none 0 0), (9, .bool false), (10, v2), (11, .slice (some ⟨g5, 0, none⟩) ((List.replicate (n.cnt).toNat bl0).length) ((List.replicate (n.cnt).toNat bl0).length)), (13, .slice (some ⟨g10, 0, none⟩) ((List.replicate (n.cnt).toNat bl0).length) ((List.replicate (n.cnt).toNat bl0).length)), (14, .slice (some ⟨g11, 0, none⟩) ((List.replicate (n.cnt).toNat (0 : Int)).length) ((List.replicate (n.cnt).toNat (0 : Int)).length)), (15, .slice (some ⟨g12, 0, none⟩) 0 0), (17, .int .i64 (f : Int)), (18, bv), (19, .int .i64 a), (21, .int .i64 (bs.getD ((a).toNat) 0)), (22, .int .i64 (a / 2)), (32, .bool false), (68, .bool false), (77, .bool true), (89, .bool false), (117, .bool true)]) (fun ds4 ab4 => ds4.length = n.cnt.toNat ∧ AbOk n.cnt ab4) ?_ ?_
   ·
    refine zaf (zab (zad 1 rfl (hl_v rfl rfl rfl (rv_rem rfl rfl rfl (by constructor <;> omega)) ?_)))
    refine zdi rfl rfl rfl rfl rfl rfl (fun h33 => ?_) (fun h33 => ?_)
    ·
     refine zad 3 rfl (hl_v rfl rfl rfl (zbj rfl rfl rfl (by constructor <;> omega)) ?_)
     refine zdi rfl rfl rfl rfl rfl rfl (fun h34 => ?_) (fun h34 => ?_)
     ·
      refine zad 1 rfl (zac [144, 117, 89, 77, 68, 32, 22, 21, 19, 18, 17, 15, 14, 13, 11, 10, 9, 8, 4, 3, 2, 1, 0] rfl (zae (zaa (zbb rfl (zab ?_)))))
      refine zad 2 rfl (hl_v rfl rfl rfl (zal (s := 1) rfl Try.underlying80 (by kernel_rfl) rfl rfl (zas 3 rfl) (by omega) (by omega)) ?_)
      refine zdp (i := 3) (n' := (ds3.set ((a / 2).toNat) { ds3.getD ((a / 2).toNat) bl0 with b := false }).length) rfl rfl rfl (by kernel_rfl) rfl rfl rfl rfl (by first | omega | (simp only [List.length_set]; omega)) List.length_set.symm (zdm blC (fun r => .bool r.b) (fun _ => rfl) _ ({ ds3.getD ((a / 2).toNat) bl0 with b := false }) rfl) rfl ?_
      refine zac [144, 117, 89, 77, 68, 32, 22, 21, 19, 18, 17, 15, 14, 13, 11, 10, 9, 8, 4, 3, 2, 1, 0] rfl (zae ?_)
      exact zds (ds3.set ((a / 2).toNat) { ds3.getD ((a / 2).toNat) bl0 with b := false }) ab3 ⟨by first | omega | (simp only [List.length_set]; omega), hab3⟩ (zan [117, 89, 77, 68, 32, 22, 21, 19, 18, 17, 15, 14, 13, 11, 10, 9, 8, 4, 3, 2, 1, 0] rfl) ((.cons_cons _ (.cons_cons _ (.cons_cons _ (.cons_cons _ (.cons_cons _ (.cons_cons _ (.cons_cons _ .slnil))))))))
     refine zad 1 rfl (zac [144, 117, 89, 77, 68, 32, 22, 21, 19, 18, 17, 15, 14, 13, 11, 10, 9, 8, 4, 3, 2, 1, 0] rfl (zae (zaa (zaq rfl (zaz ?_)))))
     exact zds ds3 ab3 ⟨by first | omega | (simp only [List.length_set]; omega), hab3⟩ (zan [117, 89, 77, 68, 32, 22, 21, 19, 18, 17, 15, 14, 13, 11, 10, 9, 8, 4, 3, 2, 1, 0] rfl) ((.cons_cons _ (.cons_cons _ (.cons_cons _ (.cons_cons _ (.cons_cons _ (.cons_cons _ (.cons_cons _ .slnil))))))))
    refine zad 3 rfl (zbi rfl rfl rfl (zbi rfl rfl rfl (zad 1 rfl (zac [144, 117, 89, 77, 68, 32, 22, 21, 19, 18, 17, 15, 14, 13, 11, 10, 9, 8, 4, 3, 2, 1, 0] rfl (zae ?_)))))
    refine zaa (zaq rfl (zaz ?_))
    exact zds ds3 ab3 ⟨by first | omega | (simp only [List.length_set]; omega), hab3⟩ (zan [117, 89, 77, 68, 32, 22, 21, 19, 18, 17, 15, 14, 13, 11, 10, 9, 8, 4, 3, 2, 1, 0] rfl) ((.cons_cons _ (.cons_cons _ (.cons_cons _ (.cons_cons _ (.cons_cons _ (.cons_cons _ (.cons_cons _ .slnil))))))))
   intro ds4 ab4 hm35
   obtain ⟨hdl4, hab4⟩ := hm35
   have hab41 := hab4.1
   refine hc_meet2 (α := List Bl) (β := List Int) (fun ds5 ab5 => [rowE 3 1 bv bs.length (bs.map (Value.int .i64)), rowE 3 1 (.slice (some ⟨g12, 0, none⟩) 0 0) 0 ([]), rowE 3 1 (.slice (some ⟨g11, 0, none⟩) ((List.replicate (n.cnt).toNat (0 : Int)).length) ((List.replicate (n.cnt).toNat (0 : Int)).length)) ab5.length (ab5.map (Value.int .i64)), rowE 4 1 (.slice (some ⟨g10, 0, none⟩) ((List.replicate (n.cnt).toNat bl0).length) ((List.replicate (n.cnt).toNat bl0).length)) ds5.length (ds5.flatMap blC), rowE 4 1 (.slice (some ⟨g5, 0, none⟩) ((List.replicate (n.cnt).toNat bl0).length) ((List.replicate (n.cnt).toNat bl0).length)) us.length (us.flatMap blC), rowE 3 1 v2 cs.length (cs.map (Value.int .i64)), boxE b1 #[.int .i64 n.ins, n.sv, n.av, n.ov] 101]) (fun ds5 ab5 => [(0, .agg #[.int .i64 n.ins, n.sv, n.av, n.ov]), (1, lv), (2, .int .i64 node), (3, .int .i64 h), (4, .pointer (some ⟨b1, 0, none⟩)), (8, .slice none 0 0), (9, .bool false), (10, v2), (11, .slice (some ⟨g5, 0, none⟩) ((List.replicate (n.cnt).toNat bl0).length) ((List.replicate (n.cnt).toNat bl0).length)), (13, .slice (some ⟨g10, 0, none⟩) ((List.replicate (n.cnt).toNat bl0).length) ((List.replicate (n.cnt).toNat bl0).length)), (14, .slice (some ⟨g11, 0, none⟩) ((List.replicate (n.cnt).toNat (0 : Int)).length) ((List.replicate (n.cnt).toNat (0 : Int)).length)), (15, .slice (some ⟨g12, 0, none⟩) 0 0), (17, .int .i64 (f : Int)), (18, bv), (19, .int .i64 a), (21, .int .i64 (bs.getD ((a).toNat) 0)), (22, .int .i64 (a / 2)), (32, .bool false), (68, .bool false), (77, .bool true), (89, .bool false), (117, .bool true)]) (fun ds5 ab5 => ds5.length = n.cnt.toNat ∧ AbOk n.cnt ab5) ?_ ?_
   ·
    refine zaf (zab (zad 1 rfl (hl_v rfl rfl rfl (rv_rem rfl rfl rfl (by constructor <;> omega)) ?_)))
    refine zdi rfl rfl rfl rfl rfl rfl (fun h36 => ?_) (fun h36 => ?_)
    ·
     refine zad 2 rfl ?_
     refine zdi rfl rfl rfl rfl rfl rfl (fun h37 => ?_) (fun h37 => ?_)
     ·
      refine zad 1 rfl (zac [154, 117, 89, 77, 68, 32, 22, 21, 19, 18, 17, 15, 14, 13, 11, 10, 9, 8, 4, 3, 2, 1, 0] rfl (zae (zaa (zbb rfl (zab ?_)))))
      refine zad 2 rfl (hl_v rfl rfl rfl (zal (s := 1) rfl Try.underlying26 (by kernel_rfl) rfl rfl (zas 2 rfl) (by omega) (by omega)) ?_)
      refine zdp (i := 2) (n' := (ab4.set ((a / 2).toNat) (-1)).length) (xs' := ((ab4.set ((a / 2).toNat) (-1)).map (Value.int .i64))) rfl rfl rfl (by kernel_rfl) rfl rfl rfl rfl (by first | omega | (simp only [List.length_set]; omega)) List.length_set.symm (zep _ _ _) rfl ?_
      refine zac [154, 117, 89, 77, 68, 32, 22, 21, 19, 18, 17, 15, 14, 13, 11, 10, 9, 8, 4, 3, 2, 1, 0] rfl (zae ?_)
      exact zds ds4 (ab4.set ((a / 2).toNat) (-1)) ⟨by first | omega | (simp only [List.length_set]; omega), (hab4.set (by omega))⟩ (zan [117, 89, 77, 68, 32, 22, 21, 19, 18, 17, 15, 14, 13, 11, 10, 9, 8, 4, 3, 2, 1, 0] rfl) ((.cons_cons _ (.cons_cons _ (.cons_cons _ (.cons_cons _ (.cons_cons _ (.cons_cons _ (.cons_cons _ .slnil))))))))
     refine zad 1 rfl (zac [154, 117, 89, 77, 68, 32, 22, 21, 19, 18, 17, 15, 14, 13, 11, 10, 9, 8, 4, 3, 2, 1, 0] rfl (zae (zaa (zaq rfl (zaz ?_)))))
     exact zds ds4 ab4 ⟨by first | omega | (simp only [List.length_set]; omega), hab4⟩ (zan [117, 89, 77, 68, 32, 22, 21, 19, 18, 17, 15, 14, 13, 11, 10, 9, 8, 4, 3, 2, 1, 0] rfl) ((.cons_cons _ (.cons_cons _ (.cons_cons _ (.cons_cons _ (.cons_cons _ (.cons_cons _ (.cons_cons _ .slnil))))))))
    refine zad 2 rfl (zbi rfl rfl rfl (zad 1 rfl (zac [154, 117, 89, 77, 68, 32, 22, 21, 19, 18, 17, 15, 14, 13, 11, 10, 9, 8, 4, 3, 2, 1, 0] rfl (zae (zaa ?_)))))
    refine zaq rfl (zaz ?_)
    exact zds ds4 ab4 ⟨by first | omega | (simp only [List.length_set]; omega), hab4⟩ (zan [117, 89, 77, 68, 32, 22, 21, 19, 18, 17, 15, 14, 13, 11, 10, 9, 8, 4, 3, 2, 1, 0] rfl) ((.cons_cons _ (.cons_cons _ (.cons_cons _ (.cons_cons _ (.cons_cons _ (.cons_cons _ (.cons_cons _ .slnil))))))))
   intro ds5 ab5 hm38
   obtain ⟨hdl5, hab5⟩ := hm38
   have hab51 := hab5.1
   refine hc_meet2 (α := List Bl) (β := List Int) (fun ds7 ab7 => [rowE 3 1 bv bs.length (bs.map (Value.int .i64)), rowE 3 1 (.slice (some ⟨g12, 0, none⟩) 0 0) 0 ([]), rowE 3 1 (.slice (some ⟨g11, 0, none⟩) ((List.replicate (n.cnt).toNat (0 : Int)).length) ((List.replicate (n.cnt).toNat (0 : Int)).length)) ab7.length (ab7.map (Value.int .i64)), rowE 4 1 (.slice (some ⟨g10, 0, none⟩) ((List.replicate (n.cnt).toNat bl0).length) ((List.replicate (n.cnt).toNat bl0).length)) ds7.length (ds7.flatMap blC), rowE 4 1 (.slice (some ⟨g5, 0, none⟩) ((List.replicate (n.cnt).toNat bl0).length) ((List.replicate (n.cnt).toNat bl0).length)) us.length (us.flatMap blC), rowE 3 1 v2 cs.length (cs.map (Value.int .i64)), boxE b1 #[.int .i64 n.ins, n.sv, n.av, n.ov] 101]) (fun ds7 ab7 => [(0, .agg #[.int .i64 n.ins, n.sv, n.av, n.ov]), (1, lv), (2, .int .i64 node), (3, .int .i64 h), (4, .pointer (some ⟨b1, 0, none⟩)), (8, .slice none 0 0), (9, .bool false), (10, v2), (11, .slice (some ⟨g5, 0, none⟩) ((List.replicate (n.cnt).toNat bl0).length) ((List.replicate (n.cnt).toNat bl0).length)), (13, .slice (some ⟨g10, 0, none⟩) ((List.replicate (n.cnt).toNat bl0).length) ((List.replicate (n.cnt).toNat bl0).length)), (14, .slice (some ⟨g11, 0, none⟩) ((List.replicate (n.cnt).toNat (0 : Int)).length) ((List.replicate (n.cnt).toNat (0 : Int)).length)), (15, .slice (some ⟨g12, 0, none⟩) 0 0), (17, .int .i64 (f : Int)), (18, bv), (19, .int .i64 a), (21, .int .i64 (bs.getD ((a).toNat) 0)), (22, .int .i64 (a / 2)), (32, .bool false), (68, .bool false), (77, .bool true), (89, .bool false), (117, .bool true)]) (fun ds7 ab7 => ds7.length = n.cnt.toNat ∧ AbOk n.cnt ab7) ?_ ?_
   ·
    refine zaf (zab (zad 1 rfl (hl_v rfl rfl rfl (rv_rem rfl rfl rfl (by constructor <;> omega)) ?_)))
    refine zdi rfl rfl rfl rfl rfl rfl (fun h39 => ?_) (fun h39 => ?_)
    ·
     refine zad 2 rfl ?_
     refine zey rfl rfl rfl rfl rfl rfl (fun h40 => ?_) (fun h40 => ?_)
     ·
      refine zad 4 rfl (hl_v rfl rfl rfl (zbj rfl rfl rfl (by constructor <;> omega)) ?_)
      refine hl_neq rfl rfl rfl rfl rfl rfl (fun h41 => ?_) (fun h41 => ?_)
      ·
       refine zad 1 rfl (zac [170, 117, 89, 77, 68, 32, 22, 21, 19, 18, 17, 15, 14, 13, 11, 10, 9, 8, 4, 3, 2, 1, 0] rfl (zae (zaa (zbb rfl (zab ?_)))))
       refine zad 3 rfl ?_
       refine hl_v rfl rfl rfl (zee rfl rfl rfl (by refine ⟨?_, ?_, ?_⟩ <;> omega)) ?_
       refine hl_v rfl rfl rfl (zal (s := 1) rfl Try.underlying26 (by kernel_rfl) rfl rfl (zas 2 rfl) (by omega) (by omega)) ?_
       refine zdp (i := 2) (n' := (ab5.set ((a / 2).toNat) ((bs.getD ((a).toNat) 0) / 2)).length) (xs' := ((ab5.set ((a / 2).toNat) ((bs.getD ((a).toNat) 0) / 2)).map (Value.int .i64))) rfl rfl rfl (by kernel_rfl) rfl rfl rfl rfl (by first | omega | (simp only [List.length_set]; omega)) List.length_set.symm (zep _ _ _) rfl ?_
       refine zac [170, 117, 89, 77, 68, 32, 22, 21, 19, 18, 17, 15, 14, 13, 11, 10, 9, 8, 4, 3, 2, 1, 0] rfl (zae ?_)
       exact zds ds5 (ab5.set ((a / 2).toNat) ((bs.getD ((a).toNat) 0) / 2)) ⟨by first | omega | (simp only [List.length_set]; omega), (hab5.set (by omega))⟩ (zan [117, 89, 77, 68, 32, 22, 21, 19, 18, 17, 15, 14, 13, 11, 10, 9, 8, 4, 3, 2, 1, 0] rfl) ((.cons_cons _ (.cons_cons _ (.cons_cons _ (.cons_cons _ (.cons_cons _ (.cons_cons _ (.cons_cons _ .slnil))))))))
      refine zad 1 rfl (zac [170, 117, 89, 77, 68, 32, 22, 21, 19, 18, 17, 15, 14, 13, 11, 10, 9, 8, 4, 3, 2, 1, 0] rfl (zae (zaa (zaq rfl (zaz ?_)))))
      exact zds ds5 ab5 ⟨by first | omega | (simp only [List.length_set]; omega), hab5⟩ (zan [117, 89, 77, 68, 32, 22, 21, 19, 18, 17, 15, 14, 13, 11, 10, 9, 8, 4, 3, 2, 1, 0] rfl) ((.cons_cons _ (.cons_cons _ (.cons_cons _ (.cons_cons _ (.cons_cons _ (.cons_cons _ (.cons_cons _ .slnil))))))))
     refine zad 4 rfl (zbi rfl rfl rfl (zbi rfl rfl rfl (zad 1 rfl (zac [170, 117, 89, 77, 68, 32, 22, 21, 19, 18, 17, 15, 14, 13, 11, 10, 9, 8, 4, 3, 2, 1, 0] rfl (zae ?_)))))
     refine zaa (zaq rfl (zaz ?_))
     exact zds ds5 ab5 ⟨by first | omega | (simp only [List.length_set]; omega), hab5⟩ (zan [117, 89, 77, 68, 32, 22, 21, 19, 18, 17, 15, 14, 13, 11, 10, 9, 8, 4, 3, 2, 1, 0] rfl) ((.cons_cons _ (.cons_cons _ (.cons_cons _ (.cons_cons _ (.cons_cons _ (.cons_cons _ (.cons_cons _ .slnil))))))))
    refine zad 2 rfl (zbi rfl rfl rfl (zad 4 rfl (zbi rfl rfl rfl (zbi rfl rfl rfl (zad 1 rfl ?_)))))
    refine zac [170, 117, 89, 77, 68, 32, 22, 21, 19, 18, 17, 15, 14, 13, 11, 10, 9, 8, 4, 3, 2, 1, 0] rfl (zae (zaa (zaq rfl (zaz ?_))))
    exact zds ds5 ab5 ⟨by first | omega | (simp only [List.length_set]; omega), hab5⟩ (zan [117, 89, 77, 68, 32, 22, 21, 19, 18, 17, 15, 14, 13, 11, 10, 9, 8, 4, 3, 2, 1, 0] rfl) ((.cons_cons _ (.cons_cons _ (.cons_cons _ (.cons_cons _ (.cons_cons _ (.cons_cons _ (.cons_cons _ .slnil))))))))
   intro ds7 ab7 hm42
   obtain ⟨hdl7, hab7⟩ := hm42
   have hab71 := hab7.1
   refine zab (zad 2 rfl (zac [117, 89, 77, 68, 32, 22, 21, 19, 18, 17, 15, 14, 13, 11, 10, 9, 8, 4, 3, 2, 1, 0] rfl (zae (zai ?_))))
   exact zce (bs.getD a.toNat 0) ds7 ab7 ⟨by omega, by omega, by omega, hab7⟩ (rank_dec (by omega) (fun h => hrk a.toNat (by omega) h)) (zan [89, 77, 68, 32, 19, 18, 17, 15, 14, 13, 11, 10, 9, 8, 4, 3, 2, 1, 0] rfl) ((.cons_cons _ (.cons_cons _ (.cons_cons _ (.cons_cons _ (.cons_cons _ (.cons_cons _ (.cons_cons _ .slnil))))))))
  refine zac [117, 89, 77, 68, 32, 19, 18, 17, 15, 14, 13, 11, 10, 9, 8, 4, 3, 2, 1, 0] rfl (zae (zaa (zaq rfl ?_)))
  refine zbp ?_
  refine zah (zah ?_)
  refine zav ?_
  refine zai (zaa (zab (zad 1 rfl (hl_v rfl rfl rfl (zbj rfl rfl rfl (by constructor <;> omega)) (zad 1 rfl ?_)))))
  refine zac [117, 89, 77, 68, 32, 19, 18, 17, 15, 14, 13, 11, 10, 9, 8, 4, 3, 2, 1, 0] rfl (zae ?_)
  exact zce (f + 1) ds2 ab2 ⟨by omega, by omega, hab2⟩ (by omega) (zan [68, 32, 17, 15, 14, 13, 11, 10, 9, 8, 4, 3, 2, 1, 0] rfl) ((.cons _ (.cons_cons _ (.cons_cons _ (.cons_cons _ (.cons_cons _ (.cons_cons _ (.cons_cons _ .slnil))))))))
 refine zac [77, 68, 32, 17, 15, 14, 13, 11, 10, 9, 8, 4, 3, 2, 1, 0] rfl (zae (zaa (zaq rfl ?_)))
 refine zbp ?_
 refine zah (zah ?_)
 refine zav ?_
 refine zaa (zaf (zab (zad 3 rfl (zac [77, 68, 32, 17, 15, 14, 13, 11, 10, 9, 8, 4, 3, 2, 1, 0] rfl (zae ?_)))))
 refine zaa ?_
 refine zbl ?_
 exact zde (rs := [.tmp 8, .tmp 9]) (vs := [.slice (some ⟨g12, 0, none⟩) 0 0, .bool false]) (post := [rowE 3 1 (.slice (some ⟨g12, 0, none⟩) 0 0) 0 ([])]) rfl ⟨rfl, rfl, trivial⟩ rfl ((.cons_cons _ (.cons _ (.cons _ (.cons _ (.cons _ (.cons _ .slnil))))))) ⟨[], _, _, rfl, rfl, by simp; omega, fun x hx => by cases hx⟩
set_option maxHeartbeats 4000000 in
set_option maxRecDepth 100000 in
theorem Labels_ret (n : Nt) (w : World) (hr : RdsNt w n) (hn : NtOk n) :
   Calls Try.prog 96 #[.agg #[.int .i64 n.ins, n.sv, n.av, n.ov]] w (Ret w (fun u_ p_ => ∃ ls : List Int, p_ = [rowE 3 1 u_ ls.length (ls.map (Value.int .i64))] ∧ LbOk n 0 ls)) := by
 have hi0 := hn.i0
 have hi1 := hn.i1
 have hs1 := hn.s1
 have ha1 := hn.a1
 have ho1 := hn.o1
 have hcnt : n.cnt = 1 + n.ins + n.ss.length + n.gs.length := rfl
 have hfst : n.fst = 1 + n.ins + n.ss.length := rfl
 refine zbq (N := 66) (args := [.agg #[.int .i64 n.ins, n.sv, n.av, n.ov]]) Try.func96 rfl rfl ?_
 refine zbt _ [0] rfl (zaf (zab ?_))
 refine zci rfl rfl rfl (zdd rfl rfl) ?_
 intro b1
 refine zad 1 rfl (zac [2, 1, 0] rfl (zae (zaa (zaf (zaf ?_)))))
 refine zab (hl_v rfl rfl rfl (zbc (cs := [.int .i64 n.ins, n.sv, n.av, n.ov]) rfl (by kernel_rfl) (by kernel_rfl) rfl rfl (zay 0 rfl 0 rfl)) ?_)
 refine zbm rfl rfl rfl (zba (by kernel_rfl) rfl (fun w hm => zbk (zdk n w (hr.below hm.bel) hn))) ?_
 refine zad 1 rfl (zac [11, 2, 1, 0] rfl (zae (zaa (zaq rfl (zaz ?_)))))
 refine zaa (zaf (zab (hl_v rfl rfl rfl (zbc (cs := [.int .i64 n.ins, n.sv, n.av, n.ov]) rfl (by kernel_rfl) (by kernel_rfl) rfl rfl (zay 0 rfl 0 rfl)) ?_)))
 refine zbm rfl rfl rfl (zba (by kernel_rfl) rfl (fun w hm => zbk (zbs n w (hr.below hm.bel) hn))) ?_
 refine zbr rfl rfl rfl (zeu (z := .int .i64 0) (s := 1) (bytes := 8) (n := (List.replicate (n.cnt).toNat (0 : Int)).length) (cs := ((List.replicate (n.cnt).toNat (0 : Int)).map (Value.int .i64))) rfl Try.underlying26 (by kernel_rfl) (by decide) rfl rfl (by first | (rw [List.length_replicate]; done) | (rw [List.length_replicate]; omega)) (by first | (rw [List.length_replicate]; done) | (rw [List.length_replicate]; omega)) (by rw [List.length_replicate]; omega) (zfr _)) ?_
 intro g2
 refine zad 1 rfl (zac [11, 3, 2, 1, 0] rfl (zae (zaa (zaf (zaf ?_)))))
 refine zab (hl_v rfl rfl rfl (zbc (cs := [.int .i64 n.ins, n.sv, n.av, n.ov]) rfl (by kernel_rfl) (by kernel_rfl) rfl rfl (zay 1 rfl 0 rfl)) ?_)
 refine zbm rfl rfl rfl (zba (by kernel_rfl) rfl (fun w hm => zbk (zbv n w (hr.below hm.bel) hn))) ?_
 refine zad 1 rfl (zac [11, 4, 3, 2, 1, 0] rfl (zae (zaa (zax ?_))))
 refine zdt (α := Nat) (β := List Int) (fun i ls => [rowE 3 1 (.slice (some ⟨g2, 0, none⟩) ((List.replicate (n.cnt).toNat (0 : Int)).length) ((List.replicate (n.cnt).toNat (0 : Int)).length)) ls.length (ls.map (Value.int .i64)), boxE b1 #[.int .i64 n.ins, n.sv, n.av, n.ov] 101]) (fun i ls => [(0, .agg #[.int .i64 n.ins, n.sv, n.av, n.ov]), (1, .pointer (some ⟨b1, 0, none⟩)), (2, .slice none 0 0), (3, .slice (some ⟨g2, 0, none⟩) ((List.replicate (n.cnt).toNat (0 : Int)).length) ((List.replicate (n.cnt).toNat (0 : Int)).length)), (4, .int .i64 (n.fst + (i : Int))), (11, .bool false)]) (fun i ls => i ≤ n.gs.length ∧ LbOk n 0 ls) (fun i ls => n.gs.length - i) 0 _ ⟨Nat.zero_le _, LbOk.start (by omega)⟩ (sk 0 rfl (sk 1 rfl (sk 2 rfl (sk 3 rfl (sk 4 (congrArg (fun x => some (Value.int .i64 x)) (by simp)) (sk 11 rfl (zag _))))))) ((.cons_cons _ (.cons_cons _ .slnil))) ?_
 intro i ls hi3
 obtain ⟨hi, hlb⟩ := hi3
 have hll := hlb.len
 refine zaf (zaf (zab (zad 1 rfl (hl_v rfl rfl rfl (zbc (cs := [.int .i64 n.ins, n.sv, n.av, n.ov]) rfl (by kernel_rfl) (by kernel_rfl) rfl rfl (zay 1 rfl 0 rfl)) ?_))))
 refine zbm rfl rfl rfl (zba (by kernel_rfl) rfl (fun w hm => zbk (zbs n w (hr.below hm.bel) hn))) ?_
 refine zbw rfl rfl rfl rfl rfl rfl (fun h4 => ?_) (fun h4 => ?_)
 ·
  refine zac [21, 11, 4, 3, 2, 1, 0] rfl (zae (zaa (zbb rfl (zaz (zaa ?_)))))
  refine zaf (zax (zaf ?_))
  have hani := hn.an ((n.fst + (i : Int)) - n.fst).toNat (by omega)
  unfold LtOk at hani
  have hl1 := hlb.at_ ((n.gs.getD (((n.fst + (i : Int)) - n.fst).toNat) an0).a / 2).toNat (by omega)
  have hl2 := hlb.at_ ((n.gs.getD (((n.fst + (i : Int)) - n.fst).toNat) an0).b / 2).toNat (by omega)
  refine zdj (by kernel_rfl) 9 [0, 1, 2, 3, 4, 5, 6, 7, 8] (List.take 9 _) (List.drop 9 _) [[], [0], [], [], [3], [2, 4], [1, 5], [6], []] [24, 25, 26, 27, 28, 29, 30, 31, 5] (fun i_ vs_ v_ p_ => match i_ with | 0 => v_ = .pointer (some ⟨b1, 0 + 2, none⟩) ∧ p_ = [] | 1 => v_ = n.av ∧ p_ = [] | 2 => v_ = .int .i64 (n.fst + (i : Int)) ∧ p_ = [] | 3 => v_ = .agg #[.int .i64 n.ins, n.sv, n.av, n.ov] ∧ p_ = [] | 4 => v_ = .int .i64 n.fst ∧ p_ = [] | 5 => v_ = .int .i64 ((n.fst + (i : Int)) - n.fst) ∧ p_ = [] | 6 => v_ = elP n.av (((n.fst + (i : Int)) - n.fst).toNat * 2) ∧ p_ = [] | 7 => v_ = .agg #[.int .i64 ((n.gs.getD (((n.fst + (i : Int)) - n.fst).toNat) an0).a), .int .i64 ((n.gs.getD (((n.fst + (i : Int)) - n.fst).toNat) an0).b)] ∧ p_ = [] | 8 => IsBox #[.int .i64 0, .int .i64 0] 124 v_ p_ | _ => True) (List.take_append_drop 9 _).symm (by kernel_rfl) (by kernel_rfl) rfl rfl ?_ ?_
  ·
   refine ⟨?_, ?_, ?_, ?_, ?_, ?_, ?_, ?_, ?_, trivial⟩
   ·
    intro vf pf hR
    refine Or.inl ⟨rfl, ?_⟩
    refine zbh (sk 1 rfl (zag _)) ?_
    exact rq_v (zat (k0 := 2) rfl (by kernel_rfl) rfl)
   ·
    intro vf pf hR
    have e0 : (vf 0) = .pointer (some ⟨b1, 0 + 2, none⟩) ∧ (pf 0) = [] := hR 0 (by decide)
    refine Or.inl ⟨rfl, ?_⟩
    refine zau (sk 24 (congrArg some e0.1) (zag _)) (List.sublist_append_right _ _) ?_
    exact rq_v (zbd rfl (by kernel_rfl) rfl (zaw 1 rfl rfl))
   ·
    intro vf pf hR
    refine Or.inl ⟨rfl, ?_⟩
    refine zbh (sk 4 rfl (zag _)) ?_
    exact rq_v (zap rfl)
   ·
    intro vf pf hR
    refine Or.inl ⟨rfl, ?_⟩
    refine zau (sk 1 rfl (zag _)) (List.sublist_append_right _ _) ?_
    exact rq_v (zbc (cs := [.int .i64 n.ins, n.sv, n.av, n.ov]) rfl (by kernel_rfl) (by kernel_rfl) rfl rfl (zay 1 rfl 0 rfl))
   ·
    intro vf pf hR
    have e3 : (vf 3) = .agg #[.int .i64 n.ins, n.sv, n.av, n.ov] ∧ (pf 3) = [] := hR 3 (by decide)
    refine Or.inl ⟨rfl, ?_⟩
    refine zau (sk 27 (congrArg some e3.1) (zag _)) (List.sublist_append_right _ _) ?_
    exact (zba (by kernel_rfl) rfl (fun w hm => zbk (zbv n w (hr.below hm.bel) hn)))
   ·
    intro vf pf hR
    have e2 : (vf 2) = .int .i64 (n.fst + (i : Int)) ∧ (pf 2) = [] := hR 2 (by decide)
    have e4 : (vf 4) = .int .i64 n.fst ∧ (pf 4) = [] := hR 4 (by decide)
    refine Or.inl ⟨rfl, ?_⟩
    refine zbh (sk 26 (congrArg some e2.1) (sk 28 (congrArg some e4.1) (zag _))) ?_
    exact rq_v (zdb rfl rfl rfl (by constructor <;> omega))
   ·
    intro vf pf hR
    have e1 : (vf 1) = n.av ∧ (pf 1) = [] := hR 1 (by decide)
    have e5 : (vf 5) = .int .i64 ((n.fst + (i : Int)) - n.fst) ∧ (pf 5) = [] := hR 5 (by decide)
    refine Or.inl ⟨rfl, ?_⟩
    refine zau (sk 25 (congrArg some e1.1) (sk 29 (congrArg some e5.1) (zag _))) (List.sublist_append_right _ _) ?_
    exact rq_v (zal (s := 2) rfl Try.underlying99 (by kernel_rfl) rfl rfl (zak hr.an) (by omega) (by omega))
   ·
    intro vf pf hR
    have e6 : (vf 6) = elP n.av (((n.fst + (i : Int)) - n.fst).toNat * 2) ∧ (pf 6) = [] := hR 6 (by decide)
    refine Or.inl ⟨rfl, ?_⟩
    refine zau (sk 30 (congrArg some e6.1) (zag _)) (List.sublist_append_right _ _) ?_
    exact rq_v (zdr (us := [.int .i64 ((n.gs.getD (((n.fst + (i : Int)) - n.fst).toNat) an0).a), .int .i64 ((n.gs.getD (((n.fst + (i : Int)) - n.fst).toNat) an0).b)]) rfl (by kernel_rfl) (by kernel_rfl) rfl (zak hr.an) (by omega) rfl (zel anC 2 (fun _ => rfl) n.gs an0 (show ((n.fst + (i : Int)) - n.fst).toNat < _ by omega) rfl))
   intro vf pf hR
   refine Or.inl ⟨rfl, ?_⟩
   refine zau (zag _) (List.sublist_append_right _ _) ?_
   exact zcj (z := .agg #[.int .i64 0, .int .i64 0]) rfl (by kernel_rfl)
  intro vf pf hR
  have e7 : (vf 7) = .agg #[.int .i64 ((n.gs.getD (((n.fst + (i : Int)) - n.fst).toNat) an0).a), .int .i64 ((n.gs.getD (((n.fst + (i : Int)) - n.fst).toNat) an0).b)] ∧ (pf 7) = [] := hR 7 (by decide)
  have e8 : IsBox #[.int .i64 0, .int .i64 0] 124 (vf 8) (pf 8) := hR 8 (by decide)
  obtain ⟨b5, vE8, pE8⟩ := e8
  have q0 : (vf 0) = .pointer (some ⟨b1, 0 + 2, none⟩) ∧ (pf 0) = [] := hR 0 (by decide)
  have q1 : (vf 1) = n.av ∧ (pf 1) = [] := hR 1 (by decide)
  have q2 : (vf 2) = .int .i64 (n.fst + (i : Int)) ∧ (pf 2) = [] := hR 2 (by decide)
  have q3 : (vf 3) = .agg #[.int .i64 n.ins, n.sv, n.av, n.ov] ∧ (pf 3) = [] := hR 3 (by decide)
  have q4 : (vf 4) = .int .i64 n.fst ∧ (pf 4) = [] := hR 4 (by decide)
  have q5 : (vf 5) = .int .i64 ((n.fst + (i : Int)) - n.fst) ∧ (pf 5) = [] := hR 5 (by decide)
  have q6 : (vf 6) = elP n.av (((n.fst + (i : Int)) - n.fst).toNat * 2) ∧ (pf 6) = [] := hR 6 (by decide)
  have q7 : (vf 7) = .agg #[.int .i64 ((n.gs.getD (((n.fst + (i : Int)) - n.fst).toNat) an0).a), .int .i64 ((n.gs.getD (((n.fst + (i : Int)) - n.fst).toNat) an0).b)] ∧ (pf 7) = [] := hR 7 (by decide)
  refine zcs (sk 0 rfl (sk 1 rfl (sk 2 rfl (sk 3 rfl (sk 4 rfl (sk 5 (congrArg some vE8) (sk 11 rfl (sk 21 rfl (sk 31 (congrArg some e7.1) (zag _)))))))))) (by simp only [pE8, vE8, q0.2, q1.2, q2.2, q3.2, q4.2, q5.2, q6.2, q7.2, fS] <;> rfl) ?_
  simp only [List.drop_succ_cons, List.drop_zero]
  refine zcn (cs' := #[.int .i64 ((n.gs.getD (((n.fst + (i : Int)) - n.fst).toNat) an0).a), .int .i64 ((n.gs.getD (((n.fst + (i : Int)) - n.fst).toNat) an0).b)]) (i := 0) (off := 0) (us := [.int .i64 ((n.gs.getD (((n.fst + (i : Int)) - n.fst).toNat) an0).a), .int .i64 ((n.gs.getD (((n.fst + (i : Int)) - n.fst).toNat) an0).b)]) rfl rfl rfl (by kernel_rfl) rfl rfl rfl (zar rfl (zar rfl zby)) rfl rfl rfl ?_
  refine zac [21, 11, 5, 4, 3, 2, 1, 0] rfl (zae (zaa (zaf ?_)))
  refine zca 13 [[], [], [1], [2], [0, 3], [4], [], [], [7], [8], [6, 9], [10], [5, 11]] [32, 33, 34, 35, 36, 37, 38, 39, 40, 41, 42, 43, 44] [.slice (some ⟨g2, 0, none⟩) ((List.replicate (n.cnt).toNat (0 : Int)).length) ((List.replicate (n.cnt).toNat (0 : Int)).length), .pointer (some ⟨b5, 0 + 0, none⟩), .int .i64 ((n.gs.getD (((n.fst + (i : Int)) - n.fst).toNat) an0).a), .int .i64 (((n.gs.getD (((n.fst + (i : Int)) - n.fst).toNat) an0).a) / 2), elP (.slice (some ⟨g2, 0, none⟩) ((List.replicate (n.cnt).toNat (0 : Int)).length) ((List.replicate (n.cnt).toNat (0 : Int)).length)) ((((n.gs.getD (((n.fst + (i : Int)) - n.fst).toNat) an0).a) / 2).toNat * 1), .int .i64 (ls.getD ((((n.gs.getD (((n.fst + (i : Int)) - n.fst).toNat) an0).a) / 2).toNat) 0), .slice (some ⟨g2, 0, none⟩) ((List.replicate (n.cnt).toNat (0 : Int)).length) ((List.replicate (n.cnt).toNat (0 : Int)).length), .pointer (some ⟨b5, 0 + 1, none⟩), .int .i64 ((n.gs.getD (((n.fst + (i : Int)) - n.fst).toNat) an0).b), .int .i64 (((n.gs.getD (((n.fst + (i : Int)) - n.fst).toNat) an0).b) / 2), elP (.slice (some ⟨g2, 0, none⟩) ((List.replicate (n.cnt).toNat (0 : Int)).length) ((List.replicate (n.cnt).toNat (0 : Int)).length)) ((((n.gs.getD (((n.fst + (i : Int)) - n.fst).toNat) an0).b) / 2).toNat * 1), .int .i64 (ls.getD ((((n.gs.getD (((n.fst + (i : Int)) - n.fst).toNat) an0).b) / 2).toNat) 0), .int .i64 (if ls.getD ((((n.gs.getD (((n.fst + (i : Int)) - n.fst).toNat) an0).a) / 2).toNat) 0 < ls.getD ((((n.gs.getD (((n.fst + (i : Int)) - n.fst).toNat) an0).b) / 2).toNat) 0 then ls.getD ((((n.gs.getD (((n.fst + (i : Int)) - n.fst).toNat) an0).b) / 2).toNat) 0 else ls.getD ((((n.gs.getD (((n.fst + (i : Int)) - n.fst).toNat) an0).a) / 2).toNat) 0)] (by kernel_rfl) rfl ?_ ?_
  ·
   refine ⟨?_, ?_, ?_, ?_, ?_, ?_, ?_, ?_, ?_, ?_, ?_, ?_, ?_, trivial⟩
   · exact .inl ⟨rfl, zaj (zap rfl) rfl⟩
   · exact .inl ⟨rfl, zaj (zat (k0 := 0) rfl (by kernel_rfl) rfl) rfl⟩
   · exact .inl ⟨rfl, zaj (zbd rfl (by kernel_rfl) rfl (zaw 0 rfl rfl)) rfl⟩
   · exact .inl ⟨rfl, zaj (zee rfl rfl rfl (by refine ⟨?_, ?_, ?_⟩ <;> omega)) rfl⟩
   · exact .inl ⟨rfl, zaj (zal (s := 1) rfl Try.underlying26 (by kernel_rfl) rfl rfl (zas 1 rfl) (by omega) (by omega)) rfl⟩
   · exact .inl ⟨rfl, zaj (zam (u := .int .i64 (ls.getD ((((n.gs.getD (((n.fst + (i : Int)) - n.fst).toNat) an0).a) / 2).toNat) 0)) rfl (by kernel_rfl) rfl (zas 1 rfl) (zbg (show _ < ls.length by omega))) rfl⟩
   · exact .inl ⟨rfl, zaj (zap rfl) rfl⟩
   · exact .inl ⟨rfl, zaj (zat (k0 := 1) rfl (by kernel_rfl) rfl) rfl⟩
   · exact .inl ⟨rfl, zaj (zbd rfl (by kernel_rfl) rfl (zaw 0 rfl rfl)) rfl⟩
   · exact .inl ⟨rfl, zaj (zee rfl rfl rfl (by refine ⟨?_, ?_, ?_⟩ <;> omega)) rfl⟩
   · exact .inl ⟨rfl, zaj (zal (s := 1) rfl Try.underlying26 (by kernel_rfl) rfl rfl (zas 1 rfl) (by omega) (by omega)) rfl⟩
   · exact .inl ⟨rfl, zaj (zam (u := .int .i64 (ls.getD ((((n.gs.getD (((n.fst + (i : Int)) - n.fst).toNat) an0).b) / 2).toNat) 0)) rfl (by kernel_rfl) rfl (zas 1 rfl) (zbg (show _ < ls.length by omega))) rfl⟩
   exact .inl ⟨rfl, zaj (rv_max rfl rfl rfl) rfl⟩
  refine zac [44, 21, 11, 5, 4, 3, 2, 1, 0] rfl ?_
  simp only [List.drop_succ_cons, List.drop_zero]
  refine zad 1 rfl (zac [21, 11, 6, 5, 4, 3, 2, 1, 0] rfl (zae (zaa (zaf (zab ?_)))))
  obtain ⟨p, hp⟩ : ∃ x, (if ls.getD ((((n.gs.getD (((n.fst + (i : Int)) - n.fst).toNat) an0).a) / 2).toNat) 0 < ls.getD ((((n.gs.getD (((n.fst + (i : Int)) - n.fst).toNat) an0).b) / 2).toNat) 0 then ls.getD ((((n.gs.getD (((n.fst + (i : Int)) - n.fst).toNat) an0).b) / 2).toNat) 0 else ls.getD ((((n.gs.getD (((n.fst + (i : Int)) - n.fst).toNat) an0).a) / 2).toNat) 0) = x := ⟨_, rfl⟩
  rw [hp]
  have hp2 : 0 ≤ p ∧ p < n.fst + (i : Int) := by rw [← hp]; split <;> omega
  refine hl_v rfl rfl rfl (zap rfl) (zad 2 rfl (hl_v rfl rfl rfl (zbj rfl rfl rfl (by constructor <;> omega)) (hl_v rfl rfl rfl (zal (s := 1) rfl Try.underlying26 (by kernel_rfl) rfl rfl (zas 1 rfl) (by omega) (by omega)) ?_)))
  refine zdp (i := 1) (n' := (ls.set ((n.fst + (i : Int)).toNat) (p + 1)).length) (xs' := ((ls.set ((n.fst + (i : Int)).toNat) (p + 1)).map (Value.int .i64))) rfl rfl rfl (by kernel_rfl) rfl rfl rfl rfl (by first | omega | (simp only [List.length_set]; omega)) List.length_set.symm (zep _ _ _) rfl ?_
  refine zac [21, 11, 6, 5, 4, 3, 2, 1, 0] rfl (zae (zaa (zaf (zab (zad 1 rfl ?_)))))
  refine zfg rfl rfl rfl rfl rfl rfl (fun h6 => ?_) (fun h6 => ?_)
  ·
   refine zac [51, 21, 11, 6, 5, 4, 3, 2, 1, 0] rfl (zae (zaa (zbb rfl (zaf (zab ?_)))))
   refine hl_v rfl rfl rfl (zbc (cs := [.int .i64 n.ins, n.sv, n.av, n.ov]) rfl (by kernel_rfl) (by kernel_rfl) rfl rfl (zay 2 rfl 0 rfl)) (zad 3 rfl ?_)
   refine hl_q rfl rfl rfl (zba (by kernel_rfl) rfl (fun w hm => l17Cut_ret n (ls.set ((n.fst + (i : Int)).toNat) (p + 1)) _ (n.fst + (i : Int)) p w (hr.below hm.bel) hn ((zas 1 rfl) w hm) (by first | omega | (simp only [List.length_set]; omega)) (by omega))) ?_
   intro v7 p8 hR9
   obtain ⟨xs, cv, okb, rfl, rfl, hxl, hxr⟩ := hR9
   refine zad 2 rfl (hl_v rfl rfl rfl (zap rfl) ?_)
   refine zck (fun h10 => ?_) (fun h10 => ?_)
   ·
    refine zad 2 rfl (zac [51, 21, 11, 8, 6, 5, 4, 3, 2, 1, 0] rfl (zae (zaa (zaf (zab ?_)))))
    refine zad 1 rfl (zac [60, 51, 21, 11, 8, 6, 5, 4, 3, 2, 1, 0] rfl (zae (zaa (zbb rfl (zab ?_)))))
    refine zad 3 rfl (hl_v rfl rfl rfl (zal (s := 1) rfl Try.underlying26 (by kernel_rfl) rfl rfl (zas 2 rfl) (by omega) (by first | omega | (simp only [List.length_set]; omega))) ?_)
    refine zdp (i := 2) (n' := ((ls.set ((n.fst + (i : Int)).toNat) (p + 1)).set ((n.fst + (i : Int)).toNat) p).length) (xs' := (((ls.set ((n.fst + (i : Int)).toNat) (p + 1)).set ((n.fst + (i : Int)).toNat) p).map (Value.int .i64))) rfl rfl rfl (by kernel_rfl) rfl rfl rfl rfl (by first | omega | (simp only [List.length_set]; omega)) List.length_set.symm (zep _ _ _) rfl ?_
    refine zac [60, 51, 21, 11, 8, 6, 5, 4, 3, 2, 1, 0] rfl (zae (zai (zaa (zab (zad 1 rfl ?_)))))
    refine hl_v rfl rfl rfl (zbj rfl rfl rfl (by constructor <;> omega)) (zad 1 rfl (zac [60, 51, 21, 11, 8, 6, 5, 4, 3, 2, 1, 0] rfl (zae ?_)))
    exact zcu (i + 1) ((ls.set ((n.fst + (i : Int)).toNat) (p + 1)).set ((n.fst + (i : Int)).toNat) p) ⟨by omega, (hlb.set (j := 0) (by omega)).set (j := 0) (by omega)⟩ (by omega) (sk 0 rfl (sk 1 rfl (sk 2 rfl (sk 3 rfl (sk 4 (congrArg (fun x => some (Value.int .i64 x)) (by omega)) (sk 11 rfl (zag _))))))) ((.cons _ (.cons _ (.cons_cons _ (.cons_cons _ .slnil)))))
   refine zad 2 rfl (zac [51, 21, 11, 8, 6, 5, 4, 3, 2, 1, 0] rfl (zae (zaa (zaf (zab ?_)))))
   refine zad 1 rfl (zac [60, 51, 21, 11, 8, 6, 5, 4, 3, 2, 1, 0] rfl (zae (zaa (zaq rfl (zaz ?_)))))
   refine zai (zaa (zab (zad 1 rfl (hl_v rfl rfl rfl (zbj rfl rfl rfl (by constructor <;> omega)) (zad 1 rfl ?_)))))
   refine zac [60, 51, 21, 11, 8, 6, 5, 4, 3, 2, 1, 0] rfl (zae ?_)
   exact zcu (i + 1) (ls.set ((n.fst + (i : Int)).toNat) (p + 1)) ⟨by omega, hlb.set (j := 0) (by omega)⟩ (by omega) (sk 0 rfl (sk 1 rfl (sk 2 rfl (sk 3 rfl (sk 4 (congrArg (fun x => some (Value.int .i64 x)) (by omega)) (sk 11 rfl (zag _))))))) ((.cons _ (.cons _ (.cons_cons _ (.cons_cons _ .slnil)))))
  refine zac [51, 21, 11, 6, 5, 4, 3, 2, 1, 0] rfl (zae (zaa (zaq rfl (zaz (zai ?_)))))
  refine zaa (zab (zad 1 rfl (hl_v rfl rfl rfl (zbj rfl rfl rfl (by constructor <;> omega)) (zad 1 rfl (zac [51, 21, 11, 6, 5, 4, 3, 2, 1, 0] rfl ?_)))))
  refine zae ?_
  exact zcu (i + 1) (ls.set ((n.fst + (i : Int)).toNat) (p + 1)) ⟨by omega, hlb.set (j := 0) (by omega)⟩ (by omega) (sk 0 rfl (sk 1 rfl (sk 2 rfl (sk 3 rfl (sk 4 (congrArg (fun x => some (Value.int .i64 x)) (by omega)) (sk 11 rfl (zag _))))))) ((.cons _ (.cons_cons _ (.cons_cons _ .slnil))))
 refine zac [21, 11, 4, 3, 2, 1, 0] rfl (zae (zaa (zaq rfl ?_)))
 refine zbp ?_
 refine zah (zah ?_)
 refine zav ?_
 refine zaa (zaf (zab (zad 2 rfl (zac [21, 11, 4, 3, 2, 1, 0] rfl (zae ?_)))))
 refine zaa ?_
 refine zbl ?_
 exact zdn (post := [rowE 3 1 (.slice (some ⟨g2, 0, none⟩) ((List.replicate (n.cnt).toNat (0 : Int)).length) ((List.replicate (n.cnt).toNat (0 : Int)).length)) ls.length (ls.map (Value.int .i64))]) rfl rfl ((.cons_cons _ (.cons _ .slnil))) ⟨_, rfl, hlb⟩
set_option maxHeartbeats 4000000 in
set_option maxRecDepth 100000 in
theorem DepthMapping_ret (n : Nt) (w : World) (hr : RdsNt w n) (hn : NtOk n) :
   Calls Try.prog 84 #[.agg #[.int .i64 n.ins, n.sv, n.av, n.ov]] w (Ret w (fun u_ p_ => ∃ (ps : List HP) (rs : List CRow), p_ = [rowE 26 1 u_ rs.length (rs.flatMap crowC), bigE ps] ∧ (∀ w, (bigE ps).holds w → RdsAll w rs) ∧ rs.length = n.gs.length ∧ ∀ r ∈ rs, r.xs.length ≤ 400)) := by
 have hi0 := hn.i0
 have hi1 := hn.i1
 have hs1 := hn.s1
 have ha1 := hn.a1
 have ho1 := hn.o1
 have hcnt : n.cnt = 1 + n.ins + n.ss.length + n.gs.length := rfl
 have hfst : n.fst = 1 + n.ins + n.ss.length := rfl
 refine zbq (N := 39) (args := [.agg #[.int .i64 n.ins, n.sv, n.av, n.ov]]) Try.func84 rfl rfl ?_
 refine zbt _ [0] rfl (zaf (zab ?_))
 refine zci rfl rfl rfl (zdd rfl rfl) ?_
 intro b1
 refine zad 1 rfl (zac [2, 1, 0] rfl (zae (zaa (zaf (zab ?_)))))
 refine zbr rfl rfl rfl (zcr (s := 1) rfl Try.underlying41 (by kernel_rfl)) ?_
 intro g2
 refine zad 1 rfl (zac [3, 2, 1, 0] rfl (zae (zaa (zaf (zaf ?_)))))
 refine zab (hl_v rfl rfl rfl (zbc (cs := [.int .i64 n.ins, n.sv, n.av, n.ov]) rfl (by kernel_rfl) (by kernel_rfl) rfl rfl (zay 1 rfl 0 rfl)) ?_)
 refine zbm rfl rfl rfl (zba (by kernel_rfl) rfl (fun w hm => zbk (zdk n w (hr.below hm.bel) hn))) ?_
 refine zad 1 rfl (zac [11, 3, 2, 1, 0] rfl (zae (zaa (zaq rfl (zaz ?_)))))
 refine zaa (zaf (zab (hl_v rfl rfl rfl (zbc (cs := [.int .i64 n.ins, n.sv, n.av, n.ov]) rfl (by kernel_rfl) (by kernel_rfl) rfl rfl (zay 1 rfl 0 rfl)) ?_)))
 refine hl_q rfl rfl rfl (zba (by kernel_rfl) rfl (fun w hm => Labels_ret n w (hr.below hm.bel) hn)) ?_
 intro v3 p4 hR5
 obtain ⟨ls, rfl, hlb⟩ := hR5
 have hll := hlb.len
 refine zad 1 rfl (zac [11, 4, 3, 2, 1, 0] rfl (zae (zaa (zaf (zaf ?_)))))
 refine zab (hl_v rfl rfl rfl (zbc (cs := [.int .i64 n.ins, n.sv, n.av, n.ov]) rfl (by kernel_rfl) (by kernel_rfl) rfl rfl (zay 2 rfl 0 rfl)) ?_)
 refine zbm rfl rfl rfl (zba (by kernel_rfl) rfl (fun w hm => zbk (zbv n w (hr.below hm.bel) hn))) ?_
 refine zad 1 rfl (zac [11, 5, 4, 3, 2, 1, 0] rfl (zae (zaa (zax ?_))))
 refine zea _ zfk ?_
 refine zdl (α := Nat) (β := List CRow) (γ := Value) (δ := List HP) (fun i rs ov ps => [bigE ps, rowE 3 1 v3 ls.length (ls.map (Value.int .i64)), rowE 26 1 ov rs.length (rs.flatMap crowC), boxE b1 #[.int .i64 n.ins, n.sv, n.av, n.ov] 101]) (fun i rs ov ps => [(0, .agg #[.int .i64 n.ins, n.sv, n.av, n.ov]), (1, .pointer (some ⟨b1, 0, none⟩)), (2, .slice none 0 0), (3, ov), (4, v3), (5, .int .i64 (n.fst + (i : Int))), (11, .bool false)]) (fun i rs ov ps => i ≤ n.gs.length ∧ rs.length = i ∧ (∀ r ∈ rs, r.xs.length ≤ 400) ∧ ∀ w, (bigE ps).holds w → RdsAll w rs) (fun i rs ov ps => n.gs.length - i) 0 [] _ _ ⟨Nat.zero_le _, rfl, (fun r hr => by cases hr), fun w _ => RdsAll.nil w⟩ (sk 0 rfl (sk 1 rfl (sk 2 rfl (sk 3 rfl (sk 4 rfl (sk 5 (congrArg (fun x => some (Value.int .i64 x)) (by simp)) (sk 11 rfl (zag _)))))))) ((.cons_cons _ (.cons_cons _ (.cons_cons _ (.cons_cons _ .slnil))))) ?_
 intro i rs ov ps hi6
 obtain ⟨hi, hrl, hrs, hps⟩ := hi6
 refine zaf (zaf (zab (zad 1 rfl (hl_v rfl rfl rfl (zbc (cs := [.int .i64 n.ins, n.sv, n.av, n.ov]) rfl (by kernel_rfl) (by kernel_rfl) rfl rfl (zay 3 rfl 0 rfl)) ?_))))
 refine zbm rfl rfl rfl (zba (by kernel_rfl) rfl (fun w hm => zbk (zbs n w (hr.below hm.bel) hn))) ?_
 refine zbw rfl rfl rfl rfl rfl rfl (fun h7 => ?_) (fun h7 => ?_)
 ·
  refine zac [20, 11, 5, 4, 3, 2, 1, 0] rfl (zae (zaa (zbb rfl (zaz (zaa ?_)))))
  refine zaf (zax (zaf ?_))
  refine zdj (by kernel_rfl) 12 [0, 1, 2, 3, 4, 5, 6, 7, 8, 9, 10, 11] (List.take 12 _) (List.drop 12 _) [[], [], [], [], [], [3, 4], [5], [0, 1, 2, 6], [7], [7, 8], [7, 8], [7, 9]] [24, 25, 26, 27, 28, 29, 30, 31, 23, 32, 33, 6] (fun i_ vs_ v_ p_ => match i_ with | 0 => v_ = .agg #[.int .i64 n.ins, n.sv, n.av, n.ov] ∧ p_ = [] | 1 => v_ = v3 ∧ p_ = [] | 2 => v_ = .int .i64 (n.fst + (i : Int)) ∧ p_ = [] | 3 => v_ = v3 ∧ p_ = [] | 4 => v_ = .int .i64 (n.fst + (i : Int)) ∧ p_ = [] | 5 => v_ = elP v3 ((n.fst + (i : Int)).toNat * 1) ∧ p_ = [] | 6 => v_ = .int .i64 (ls.getD ((n.fst + (i : Int)).toNat) 0) ∧ p_ = [] | 7 => (fun u_ p_ => ∃ (xs : List Int) (cv : Value) (okb : Bool), u_ = .tuple #[cv, .bool okb] ∧ p_ = [rowE 3 1 cv xs.length (xs.map (Value.int .i64))] ∧ (xs.length : Int) ≤ n.cnt ∧ ∀ x ∈ xs, 0 ≤ x ∧ x < n.cnt) v_ p_ | 8 => v_ = .tuple #[(tFstH (List.getD vs_ 0 undef)), .bool (tSndB (List.getD vs_ 0 undef))] ∧ p_ = [] | 9 => v_ = (tFstH (List.getD vs_ 0 undef)) ∧ p_ = [] | 10 => v_ = .bool (tSndB (List.getD vs_ 0 undef)) ∧ p_ = [] | 11 => v_ = (tFstH (List.getD vs_ 0 undef)) ∧ p_ = [] | _ => True) (List.take_append_drop 12 _).symm (by kernel_rfl) (by kernel_rfl) rfl rfl ?_ ?_
  ·
   refine ⟨?_, ?_, ?_, ?_, ?_, ?_, ?_, ?_, ?_, ?_, ?_, ?_, trivial⟩
   ·
    intro vf pf hR
    refine Or.inl ⟨rfl, ?_⟩
    refine zau (sk 1 rfl (zag _)) (List.sublist_append_right _ _) ?_
    exact rq_v (zbc (cs := [.int .i64 n.ins, n.sv, n.av, n.ov]) rfl (by kernel_rfl) (by kernel_rfl) rfl rfl (zay 3 rfl 0 rfl))
   ·
    intro vf pf hR
    refine Or.inl ⟨rfl, ?_⟩
    refine zbh (sk 4 rfl (zag _)) ?_
    exact rq_v (zap rfl)
   ·
    intro vf pf hR
    refine Or.inl ⟨rfl, ?_⟩
    refine zbh (sk 5 rfl (zag _)) ?_
    exact rq_v (zap rfl)
   ·
    intro vf pf hR
    refine Or.inl ⟨rfl, ?_⟩
    refine zbh (sk 4 rfl (zag _)) ?_
    exact rq_v (zap rfl)
   ·
    intro vf pf hR
    refine Or.inl ⟨rfl, ?_⟩
    refine zbh (sk 5 rfl (zag _)) ?_
    exact rq_v (zap rfl)
   ·
    intro vf pf hR
    have e3 : (vf 3) = v3 ∧ (pf 3) = [] := hR 3 (by decide)
    have e4 : (vf 4) = .int .i64 (n.fst + (i : Int)) ∧ (pf 4) = [] := hR 4 (by decide)
    refine Or.inl ⟨rfl, ?_⟩
    refine zau (sk 27 (congrArg some e3.1) (sk 28 (congrArg some e4.1) (zag _))) (List.sublist_append_right _ _) ?_
    exact rq_v (zal (s := 1) rfl Try.underlying26 (by kernel_rfl) rfl rfl (zas 1 rfl) (by omega) (by omega))
   ·
    intro vf pf hR
    have e5 : (vf 5) = elP v3 ((n.fst + (i : Int)).toNat * 1) ∧ (pf 5) = [] := hR 5 (by decide)
    refine Or.inl ⟨rfl, ?_⟩
    refine zau (sk 29 (congrArg some e5.1) (zag _)) (List.sublist_append_right _ _) ?_
    exact rq_v (zam (u := .int .i64 (ls.getD ((n.fst + (i : Int)).toNat) 0)) rfl (by kernel_rfl) rfl (zas 1 rfl) (zbg (show _ < ls.length by omega)))
   ·
    intro vf pf hR
    have e0 : (vf 0) = .agg #[.int .i64 n.ins, n.sv, n.av, n.ov] ∧ (pf 0) = [] := hR 0 (by decide)
    have e1 : (vf 1) = v3 ∧ (pf 1) = [] := hR 1 (by decide)
    have e2 : (vf 2) = .int .i64 (n.fst + (i : Int)) ∧ (pf 2) = [] := hR 2 (by decide)
    have e6 : (vf 6) = .int .i64 (ls.getD ((n.fst + (i : Int)).toNat) 0) ∧ (pf 6) = [] := hR 6 (by decide)
    refine Or.inl ⟨rfl, ?_⟩
    refine zau (sk 24 (congrArg some e0.1) (sk 25 (congrArg some e1.1) (sk 26 (congrArg some e2.1) (sk 30 (congrArg some e6.1) (zag _))))) (List.sublist_append_right _ _) ?_
    exact zba (by kernel_rfl) rfl (fun w hm => l17Cut_ret n ls _ (n.fst + (i : Int)) (ls.getD ((n.fst + (i : Int)).toNat) 0) w (hr.below hm.bel) hn ((zas 1 rfl) w hm) (by first | omega | (simp only [List.length_set]; omega)) (by omega))
   ·
    intro vf pf hR
    have e7 : (fun u_ p_ => ∃ (xs : List Int) (cv : Value) (okb : Bool), u_ = .tuple #[cv, .bool okb] ∧ p_ = [rowE 3 1 cv xs.length (xs.map (Value.int .i64))] ∧ (xs.length : Int) ≤ n.cnt ∧ ∀ x ∈ xs, 0 ≤ x ∧ x < n.cnt) (vf 7) (pf 7) := hR 7 (by decide)
    obtain ⟨v8, vE7⟩ : ∃ x, vf 7 = x := ⟨_, rfl⟩
    obtain ⟨p9, pE7⟩ : ∃ x, pf 7 = x := ⟨_, rfl⟩
    have hR10 := e7
    rw [vE7, pE7] at hR10
    obtain ⟨xs, cv, okb, rfl, rfl, hxl, hxr⟩ := hR10
    refine Or.inl ⟨rfl, ?_⟩
    refine zcg (sk 31 (congrArg some vE7) (zag _)) (by simp only [pE7, vE7, fS] <;> rfl) ?_
    exact zcw (rq_v (zap rfl)) (fun _ _ h => ⟨h.1.trans (by show _ = (.tuple #[(tFstH (vf 7)), .bool (tSndB (vf 7))] : Value); first | (rw [vE7]; done) | (rw [vE7]; rfl)), h.2⟩)
   ·
    intro vf pf hR
    have e7 : (fun u_ p_ => ∃ (xs : List Int) (cv : Value) (okb : Bool), u_ = .tuple #[cv, .bool okb] ∧ p_ = [rowE 3 1 cv xs.length (xs.map (Value.int .i64))] ∧ (xs.length : Int) ≤ n.cnt ∧ ∀ x ∈ xs, 0 ≤ x ∧ x < n.cnt) (vf 7) (pf 7) := hR 7 (by decide)
    obtain ⟨v8, vE7⟩ : ∃ x, vf 7 = x := ⟨_, rfl⟩
    obtain ⟨p9, pE7⟩ : ∃ x, pf 7 = x := ⟨_, rfl⟩
    have hR10 := e7
    rw [vE7, pE7] at hR10
    obtain ⟨xs, cv, okb, rfl, rfl, hxl, hxr⟩ := hR10
    have e8 : (vf 8) = .tuple #[(tFstH (vf 7)), .bool (tSndB (vf 7))] ∧ (pf 8) = [] := hR 8 (by decide)
    rw [vE7] at e8
    refine Or.inl ⟨rfl, ?_⟩
    refine zcg (sk 23 (congrArg some e8.1) (zag _)) (by simp only [pE7, vE7, e8.2, fS] <;> rfl) ?_
    exact zcw (rq_v (zap rfl)) (fun _ _ h => ⟨h.1.trans (by show _ = ((tFstH (vf 7)) : Value); first | (rw [vE7]; done) | (rw [vE7]; rfl)), h.2⟩)
   ·
    intro vf pf hR
    have e7 : (fun u_ p_ => ∃ (xs : List Int) (cv : Value) (okb : Bool), u_ = .tuple #[cv, .bool okb] ∧ p_ = [rowE 3 1 cv xs.length (xs.map (Value.int .i64))] ∧ (xs.length : Int) ≤ n.cnt ∧ ∀ x ∈ xs, 0 ≤ x ∧ x < n.cnt) (vf 7) (pf 7) := hR 7 (by decide)
    obtain ⟨v8, vE7⟩ : ∃ x, vf 7 = x := ⟨_, rfl⟩
    obtain ⟨p9, pE7⟩ : ∃ x, pf 7 = x := ⟨_, rfl⟩
    have hR10 := e7
    rw [vE7, pE7] at hR10
    obtain ⟨xs, cv, okb, rfl, rfl, hxl, hxr⟩ := hR10
    have e8 : (vf 8) = .tuple #[(tFstH (vf 7)), .bool (tSndB (vf 7))] ∧ (pf 8) = [] := hR 8 (by decide)
    rw [vE7] at e8
    refine Or.inl ⟨rfl, ?_⟩
    refine zcg (sk 23 (congrArg some e8.1) (zag _)) (by simp only [pE7, vE7, e8.2, fS] <;> rfl) ?_
    exact zcw (rq_v (zap rfl)) (fun _ _ h => ⟨h.1.trans (by show _ = (.bool (tSndB (vf 7)) : Value); first | (rw [vE7]; done) | (rw [vE7]; rfl)), h.2⟩)
   intro vf pf hR
   have e7 : (fun u_ p_ => ∃ (xs : List Int) (cv : Value) (okb : Bool), u_ = .tuple #[cv, .bool okb] ∧ p_ = [rowE 3 1 cv xs.length (xs.map (Value.int .i64))] ∧ (xs.length : Int) ≤ n.cnt ∧ ∀ x ∈ xs, 0 ≤ x ∧ x < n.cnt) (vf 7) (pf 7) := hR 7 (by decide)
   obtain ⟨v8, vE7⟩ : ∃ x, vf 7 = x := ⟨_, rfl⟩
   obtain ⟨p9, pE7⟩ : ∃ x, pf 7 = x := ⟨_, rfl⟩
   have hR10 := e7
   rw [vE7, pE7] at hR10
   obtain ⟨xs, cv, okb, rfl, rfl, hxl, hxr⟩ := hR10
   have e9 : (vf 9) = (tFstH (vf 7)) ∧ (pf 9) = [] := hR 9 (by decide)
   rw [vE7] at e9
   refine Or.inl ⟨rfl, ?_⟩
   refine zcg (sk 32 (congrArg some e9.1) (zag _)) (by simp only [pE7, vE7, e9.2, fS] <;> rfl) ?_
   exact zcw (rq_v (zap rfl)) (fun _ _ h => ⟨h.1.trans (by show _ = ((tFstH (vf 7)) : Value); first | (rw [vE7]; done) | (rw [vE7]; rfl)), h.2⟩)
  intro vf pf hR
  have e7 : (fun u_ p_ => ∃ (xs : List Int) (cv : Value) (okb : Bool), u_ = .tuple #[cv, .bool okb] ∧ p_ = [rowE 3 1 cv xs.length (xs.map (Value.int .i64))] ∧ (xs.length : Int) ≤ n.cnt ∧ ∀ x ∈ xs, 0 ≤ x ∧ x < n.cnt) (vf 7) (pf 7) := hR 7 (by decide)
  obtain ⟨v8, vE7⟩ : ∃ x, vf 7 = x := ⟨_, rfl⟩
  obtain ⟨p9, pE7⟩ : ∃ x, pf 7 = x := ⟨_, rfl⟩
  have hR10 := e7
  rw [vE7, pE7] at hR10
  obtain ⟨xs, cv, okb, rfl, rfl, hxl, hxr⟩ := hR10
  have e10 : (vf 10) = .bool (tSndB (vf 7)) ∧ (pf 10) = [] := hR 10 (by decide)
  rw [vE7] at e10
  have e11 : (vf 11) = (tFstH (vf 7)) ∧ (pf 11) = [] := hR 11 (by decide)
  rw [vE7] at e11
  have q0 : (vf 0) = .agg #[.int .i64 n.ins, n.sv, n.av, n.ov] ∧ (pf 0) = [] := hR 0 (by decide)
  have q1 : (vf 1) = v3 ∧ (pf 1) = [] := hR 1 (by decide)
  have q2 : (vf 2) = .int .i64 (n.fst + (i : Int)) ∧ (pf 2) = [] := hR 2 (by decide)
  have q3 : (vf 3) = v3 ∧ (pf 3) = [] := hR 3 (by decide)
  have q4 : (vf 4) = .int .i64 (n.fst + (i : Int)) ∧ (pf 4) = [] := hR 4 (by decide)
  have q5 : (vf 5) = elP v3 ((n.fst + (i : Int)).toNat * 1) ∧ (pf 5) = [] := hR 5 (by decide)
  have q6 : (vf 6) = .int .i64 (ls.getD ((n.fst + (i : Int)).toNat) 0) ∧ (pf 6) = [] := hR 6 (by decide)
  have q8 : (vf 8) = .tuple #[(tFstH (vf 7)), .bool (tSndB (vf 7))] ∧ (pf 8) = [] := hR 8 (by decide)
  have q9 : (vf 9) = (tFstH (vf 7)) ∧ (pf 9) = [] := hR 9 (by decide)
  have q10 : (vf 10) = .bool (tSndB (vf 7)) ∧ (pf 10) = [] := hR 10 (by decide)
  have q11 : (vf 11) = (tFstH (vf 7)) ∧ (pf 11) = [] := hR 11 (by decide)
  refine zcs (sk 0 rfl (sk 1 rfl (sk 2 rfl (sk 3 rfl (sk 4 rfl (sk 5 rfl (sk 6 (congrArg some e11.1) (sk 11 rfl (sk 20 rfl (sk 33 (congrArg some e10.1) (zag _))))))))))) (by simp only [pE7, vE7, q0.2, q1.2, q2.2, q3.2, q4.2, q5.2, q6.2, q8.2, q9.2, q10.2, q11.2, fS] <;> rfl) ?_
  simp only [List.drop_succ_cons, List.drop_zero]
  refine zad 1 rfl (zac [20, 11, 6, 5, 4, 3, 2, 1, 0] rfl (zae (zaa (zab (zad 2 rfl ?_)))))
  refine zbr rfl rfl rfl (zer rfl Try.underlying41 (by kernel_rfl) rfl (fun w hm => (zas 0 rfl w hm).one)) ?_
  intro g11
  refine zda (i := 1) rfl (fun ho12 => ?_)
  refine zco (i := 4) (z := .slice none 0 0) (bytes := 24) rfl rfl rfl rfl Try.underlying41 (by kernel_rfl) (by kernel_rfl) rfl rfl rfl (zas 0 rfl) (zar ho12 zby) (by first | omega | (simp only [List.length_append, List.length_cons, List.length_nil]; omega)) (zcb rs [(CRow.mk cv xs)]) (zdc crowC rs (CRow.mk cv xs) _ rfl) (fun _ => rfl) ?_
  intro v13
  refine zad 1 rfl (zac [20, 11, 6, 5, 4, 3, 2, 1, 0] rfl (zae (zai (zaa (zab ?_)))))
  refine zad 1 rfl (hl_v rfl rfl rfl (zbj rfl rfl rfl (by constructor <;> omega)) (zad 1 rfl (zac [20, 11, 6, 5, 4, 3, 2, 1, 0] rfl (zae ?_))))
  refine zbu 6 [5, 4, 3, 1, 2] rfl rfl (by decide) ?_
  refine zcz 2 rfl ?_
  exact zbx (i + 1) (rs ++ [(CRow.mk cv xs)]) v13 [bigE ps, rowE 3 1 cv xs.length (xs.map (Value.int .i64))] ⟨by omega, by rw [List.length_append, List.length_singleton]; omega, fun r hr => (List.mem_append.1 hr).elim (hrs r) (fun h => by rw [List.mem_singleton] at h; subst h; show xs.length ≤ 400; omega), fun w hw => RdsAll.cons (u := CRow.mk cv xs) (hps w (zbn hw List.mem_cons_self)) (zcc (zbn hw (List.mem_cons_of_mem _ List.mem_cons_self))) (fun q hq => (List.mem_append.1 hq).elim .inr (fun h => .inl (List.mem_singleton.1 h)))⟩ (by omega) (sk 0 rfl (sk 1 rfl (sk 2 rfl (sk 3 rfl (sk 4 rfl (sk 5 (congrArg (fun x => some (Value.int .i64 x)) (by omega)) (sk 11 rfl (zag _)))))))) ((.cons_cons _ (.cons_cons _ (.cons_cons _ (.cons_cons _ .slnil)))))
 refine zac [20, 11, 5, 4, 3, 2, 1, 0] rfl (zae (zaa (zaq rfl ?_)))
 refine zbp ?_
 refine zah (zah ?_)
 refine zav ?_
 refine zaa (zaf (zab (zad 2 rfl (zac [20, 11, 5, 4, 3, 2, 1, 0] rfl (zae ?_)))))
 refine zaa ?_
 refine zbl ?_
 refine zbu 4 [0, 2] rfl rfl (by decide) ?_
 exact zdn (post := [rowE 26 1 ov rs.length (rs.flatMap crowC), bigE ps]) rfl rfl (.refl _) ⟨_, rs, rfl, hps, by omega, hrs⟩
noncomputable def pBe (p : Prop) : Bool := @decide p (Classical.propDecidable p)
theorem pBe_yes {p : Prop} (h : p) : pBe p = true := @decide_eq_true p (Classical.propDecidable p) h
theorem pBe_no {p : Prop} (h : ¬ p) : pBe p = false := @decide_eq_false p (Classical.propDecidable p) h
theorem of_pBe {p : Prop} (h : pBe p = true) : p := @of_decide_eq_true p (Classical.propDecidable p) h
def StrictE (xs : List Int) : Prop := ∀ i, i < xs.length → 0 ≤ xs.getD i 0 ∧ (0 < i → xs.getD (i - 1) 0 < xs.getD i 0)
theorem strict_no {xs : List Int} {j : Nat} (hj : j < xs.length) (hb : xs.getD j 0 < 0 ∨ (0 < j ∧ xs.getD j 0 ≤ xs.getD ((j : Int) - 1).toNat 0)) : ¬ StrictE xs := fun h => by
  have h1 := h j hj
  rcases hb with hb | ⟨h0, hb⟩
  · omega
  · have h2 := h1.2 h0
    rw [show ((j : Int) - 1).toNat = j - 1 by omega] at hb
    omega
theorem strict_step {xs : List Int} {j : Nat} (h : ∀ i, i < j → 0 ≤ xs.getD i 0 ∧ (0 < i → xs.getD (i - 1) 0 < xs.getD i 0)) (h0 : 0 ≤ xs.getD j 0) (h1 : (j : Int) ≤ 0 ∨ xs.getD ((j : Int) - 1).toNat 0 < xs.getD j 0) : ∀ i, i < j + 1 → 0 ≤ xs.getD i 0 ∧ (0 < i → xs.getD (i - 1) 0 < xs.getD i 0) := fun i hi => by
  by_cases e : i = j
  · subst e
    refine ⟨h0, fun hp => ?_⟩
    rcases h1 with h1 | h1
    · omega
    · rwa [show ((i : Int) - 1).toNat = i - 1 by omega] at h1
  · exact h i (by omega)
def CLessE (a b : List Int) : Prop := a.length < b.length ∨ a.length = b.length ∧ ∃ i, i < a.length ∧ (∀ j, j < i → a.getD j 0 = b.getD j 0) ∧ a.getD i 0 < b.getD i 0
theorem zfu {a b : List Int} (h : a.length ≠ b.length) : pBe (CLessE a b) = decide ((a.length : Int) < b.length) := by
  by_cases c : a.length < b.length
  · rw [pBe_yes (.inl c), decide_eq_true (by omega)]
  · rw [pBe_no (by rintro (h1 | h1) <;> omega), decide_eq_false (by omega)]
theorem clessE_at {a b : List Int} {i : Nat} (h : a.length = b.length) (hi : i < a.length) (hj : ∀ j, j < i → a.getD j 0 = b.getD j 0) (hne : a.getD i 0 ≠ b.getD i 0) : pBe (CLessE a b) = decide (a.getD i 0 < b.getD i 0) := by
  by_cases c : a.getD i 0 < b.getD i 0
  · rw [pBe_yes (.inr ⟨h, i, hi, hj, c⟩), decide_eq_true c]
  · rw [decide_eq_false c, pBe_no]
    rintro (h1 | ⟨-, k, hk, h1, h2⟩)
    · omega
    · rcases Nat.lt_trichotomy k i with e | e | e
      · have := hj k e; omega
      · subst e; exact c h2
      · exact hne (h1 i e)
theorem clessE_eq {a b : List Int} (h : a.length = b.length) (hj : ∀ j, j < a.length → a.getD j 0 = b.getD j 0) : pBe (CLessE a b) = false := pBe_no (by
  rintro (h1 | ⟨-, k, hk, h1, h2⟩)
  · omega
  · have := hj k hk; omega)
theorem app_mem {rs qs : List CRow} {u e : CRow} (h : ∀ q ∈ qs, q = u ∨ q ∈ rs) (he : e = u ∨ e ∈ rs) : ∀ q ∈ qs ++ [e], q = u ∨ q ∈ rs := fun q hq => by
  rcases List.mem_append.1 hq with hq | hq
  · exact h q hq
  · rw [List.mem_singleton] at hq; subst hq; exact he
theorem four_cons {rs qs : List CRow} {u : CRow} (h : ∀ r ∈ rs, r.xs.length ≤ 4) (hu : u.xs.length ≤ 4) (hq : ∀ q ∈ qs, q = u ∨ q ∈ rs) : ∀ q ∈ qs, q.xs.length ≤ 4 := fun q hm => by
  rcases hq q hm with rfl | e
  · exact hu
  · exact h q e
theorem mul_small {i j b n : Nat} (h : n ≤ i * b + j) (hi : i ≤ 8) (hj : j ≤ 8) (hb : b ≤ 8) : n ≤ 72 := by
  have : i * b ≤ 8 * 8 := Nat.mul_le_mul hi hb
  omega
structure CGrp where
  v : Value
  rs : List CRow
abbrev cgrp0 : CGrp := ⟨.slice none 0 0, []⟩
def cgC (c : CGrp) : List Value := [c.v]
def RdsGrps (w : World) (cs : List CGrp) : Prop := ∀ c ∈ cs, RdsCl w c.v c.rs
theorem RdsGrps.at {w : World} {cs : List CGrp} (h : RdsGrps w cs) {k : Nat} (hk : k < cs.length) : RdsCl w (cs.getD k cgrp0).v (cs.getD k cgrp0).rs := h _ (zcp hk)
theorem RdsGrps.app {w : World} {cs : List CGrp} (h : RdsGrps w cs) {e : CGrp} (he : RdsCl w e.v e.rs) : RdsGrps w (cs ++ [e]) := fun c hc => by
  rcases List.mem_append.1 hc with hc | hc
  · exact h c hc
  · rw [List.mem_singleton] at hc; subst hc; exact he
structure GrpOk (rs : List CRow) : Prop where
  pos : 1 ≤ rs.length
  len : rs.length ≤ 8
  four : ∀ r ∈ rs, r.xs.length ≤ 4
def GrpsOk (cs : List CGrp) : Prop := ∀ c ∈ cs, GrpOk c.rs
theorem GrpsOk.at {cs : List CGrp} (h : GrpsOk cs) {k : Nat} (hk : k < cs.length) : GrpOk (cs.getD k cgrp0).rs := h _ (zcp hk)
theorem GrpsOk.app {cs : List CGrp} (h : GrpsOk cs) {e : CGrp} (he : GrpOk e.rs) : GrpsOk (cs ++ [e]) := fun c hc => by
  rcases List.mem_append.1 hc with hc | hc
  · exact h c hc
  · rw [List.mem_singleton] at hc; subst hc; exact he
theorem GrpOk.one {v : Value} {xs : List Int} (h : xs.length ≤ 4) : GrpOk [CRow.mk v xs] := ⟨by simp, by simp, fun r hr => by rw [List.mem_singleton] at hr; subst hr; exact h⟩
theorem GrpOk.more {us : List CRow} {v : Value} {x : Int} (h : us.length ≤ 7) (h4 : ∀ r ∈ us, r.xs.length ≤ 4) : GrpOk (us ++ [CRow.mk v [x]]) := ⟨by simp, by simp; omega, fun r hr => by
  rcases List.mem_append.1 hr with hr | hr
  · exact h4 r hr
  · rw [List.mem_singleton] at hr; subst hr; simp⟩
theorem hasBE_mem {xs : List Int} {x : Int} : hasB xs x = true ↔ x ∈ xs := by unfold hasB; exact List.contains_iff_mem
theorem hasBE_at {xs : List Int} {x : Int} {j : Nat} (hj : j < xs.length) (h : xs.getD j 0 = x) : hasB xs x = true := hasBE_mem.2 (by rw [← h]; exact zcf hj)
theorem hasBE_no {xs : List Int} {x : Int} (h : ∀ i, i < xs.length → xs.getD i 0 ≠ x) : hasB xs x = false := by
  cases hb : hasB xs x with
  | false => rfl
  | true =>
    obtain ⟨i, hi, e⟩ := List.mem_iff_getElem.1 (hasBE_mem.1 hb)
    have := h i hi
    rw [List.getD_eq_getElem?_getD, List.getElem?_eq_getElem hi] at this
    exact absurd e this
set_option maxHeartbeats 4000000 in
set_option maxRecDepth 100000 in
theorem zeh (xs : List Int) (x : Int) (v : Value) (w : World) (hv : RdsW w v 1 xs.length (xs.map (Value.int .i64))) (hlen : xs.length ≤ 1000000000) :
   Calls Try.prog 94 #[v, .int .i64 x] w (Ans w (.bool (hasB xs x))) := by
 refine zbq (N := 18) (args := [v, .int .i64 x]) Try.func94 rfl rfl ?_
 refine zbt _ [1, 0] rfl (zaf (zab (zad 1 rfl (zac [4, 1, 0] rfl (zae ?_)))))
 refine zaa (zaf (zaf (zab (zad 1 rfl (zac [5, 4, 1, 0] rfl ?_)))))
 refine zae (zaa (zax ?_))
 refine zed (α := Nat) (fun j => []) (fun j => [(0, v), (1, .int .i64 x), (4, .bool false), (5, .int .i64 (j : Int))]) (fun j => j ≤ xs.length ∧ ∀ i, i < j → xs.getD i 0 ≠ x) (fun j => xs.length - j) 0 ⟨by omega, fun i hi => absurd hi (by omega)⟩ (zan [5, 4, 1, 0] rfl) (.slnil) ?_
 intro j hi1
 obtain ⟨hk1, hk2⟩ := hi1
 refine zaf (zaf (zab (zad 2 rfl (hl_v rfl rfl rfl (zbo rfl Try.underlying26 rfl (zak hv)) ?_))))
 refine zbw rfl rfl rfl rfl rfl rfl (fun h2 => ?_) (fun h2 => ?_)
 ·
  refine zac [9, 5, 4, 1, 0] rfl (zae (zaa (zbb rfl (zaz (zaa ?_)))))
  refine zaf (zax (zaf (zab (zad 2 rfl (hl_v rfl rfl rfl (zal (s := 1) rfl Try.underlying26 (by kernel_rfl) rfl rfl (zak hv) (by omega) (by omega)) ?_)))))
  refine hl_v rfl rfl rfl (zam (u := .int .i64 (xs.getD j 0)) rfl (by kernel_rfl) rfl (zak hv) (zbg (show _ < xs.length by omega))) (zad 1 rfl ?_)
  refine zdi rfl rfl rfl rfl rfl rfl (fun h3 => ?_) (fun h3 => ?_)
  ·
   refine zac [17, 9, 5, 4, 1, 0] rfl (zae (zaa (zbb rfl (zaf (zab ?_)))))
   refine zad 1 rfl (zac [17, 9, 5, 4, 1, 0] rfl (zae (zaa ?_)))
   refine zbl ?_
   refine zbf ?_
   refine zao (zao ?_)
   refine zbf ?_
   refine zao ?_
   exact zch rfl rfl (congrArg _ (hasBE_at (j := j) (by omega) (by assumption)).symm)
  refine zac [17, 9, 5, 4, 1, 0] rfl (zae (zaa (zaq rfl (zaz (zai ?_)))))
  refine zaa (zab (zad 1 rfl (hl_v rfl rfl rfl (zbj rfl rfl rfl (by constructor <;> omega)) (zad 1 rfl (zac [17, 9, 5, 4, 1, 0] rfl ?_)))))
  refine zae ?_
  exact zdh (j + 1) ⟨by omega, fun i hi => by by_cases hij : i = j; (subst hij; assumption); exact hk2 i (by omega)⟩ (by omega) (zan [5, 4, 1, 0] rfl) (.slnil)
 refine zac [9, 5, 4, 1, 0] rfl (zae (zaa (zaq rfl ?_)))
 refine zbp ?_
 refine zah (zah ?_)
 refine zav ?_
 refine zaa (zaf (zab (zad 1 rfl (zac [9, 5, 4, 1, 0] rfl (zae ?_)))))
 refine zaa ?_
 refine zbl ?_
 exact zch rfl rfl (congrArg _ (hasBE_no (fun i hi => hk2 i (by omega))).symm)
set_option maxHeartbeats 4000000 in
set_option maxRecDepth 100000 in
theorem l13Strict_ans (xs : List Int) (v : Value) (w : World) (hv : RdsW w v 1 xs.length (xs.map (Value.int .i64))) (hlen : xs.length ≤ 1000000) :
   Calls Try.prog 108 #[v] w (Ans w (.bool (pBe (StrictE xs)))) := by
 refine zbq (N := 31) (args := [v]) Try.func108 rfl rfl ?_
 refine zbt _ [0] rfl (zaf (zab (zad 1 rfl (zac [2, 0] rfl (zae ?_)))))
 refine zaa (zaf (zaf (zab (zad 1 rfl (zac [3, 2, 0] rfl ?_)))))
 refine zae (zaa (zax ?_))
 refine zed (α := Nat) (fun j => []) (fun j => [(0, v), (2, .bool false), (3, .int .i64 (j : Int))]) (fun j => j ≤ xs.length ∧ ∀ i, i < j → 0 ≤ xs.getD i 0 ∧ (0 < i → xs.getD (i - 1) 0 < xs.getD i 0)) (fun j => xs.length - j) 0 ⟨by omega, fun i hi => absurd hi (by omega)⟩ (zan [3, 2, 0] rfl) (.slnil) ?_
 intro j hi1
 obtain ⟨hk1, hk2⟩ := hi1
 refine zaf (zaf (zab (zad 2 rfl (hl_v rfl rfl rfl (zbo rfl Try.underlying26 rfl (zak hv)) ?_))))
 refine zbw rfl rfl rfl rfl rfl rfl (fun h2 => ?_) (fun h2 => ?_)
 ·
  refine zac [7, 3, 2, 0] rfl (zae (zaa (zbb rfl (zaz (zaa ?_)))))
  refine zaf (zax (zaf ?_))
  rcases Bool.eq_false_or_eq_true (decide (xs.getD j 0 < 0)) with hb3 | hb3
  ·
   have hb3p : xs.getD j 0 < 0 := of_decide_eq_true hb3
   refine zca 21 [[], [], [0, 1], [2], [3], [4], [5], [5], [5], [8], [8], [8], [8], [8], [8], [8], [8], [8], [8], [5], [5, 19]] [10, 11, 12, 13, 14, 15, 16, 17, 18, 19, 20, 21, 22, 23, 24, 25, 26, 27, 28, 29, 30] [v, .int .i64 (j : Int), elP v (((j : Int)).toNat * 1), .int .i64 (xs.getD j 0), .bool true, .bool true, undef, undef, undef, undef, undef, undef, undef, undef, undef, undef, undef, undef, undef, undef, .bool true] (by kernel_rfl) rfl ?_ ?_
   ·
    refine ⟨?_, ?_, ?_, ?_, ?_, ?_, ?_, ?_, ?_, ?_, ?_, ?_, ?_, ?_, ?_, ?_, ?_, ?_, ?_, ?_, ?_, trivial⟩
    · exact .inl ⟨rfl, zaj (zap rfl) rfl⟩
    · exact .inl ⟨rfl, zaj (zap rfl) rfl⟩
    · exact .inl ⟨rfl, zaj (zal (s := 1) rfl Try.underlying26 (by kernel_rfl) rfl rfl (zak hv) (by omega) (by omega)) rfl⟩
    · exact .inl ⟨rfl, zaj (zam (u := .int .i64 (xs.getD j 0)) rfl (by kernel_rfl) rfl (zak hv) (zbg (show _ < xs.length by omega))) rfl⟩
    · exact .inl ⟨rfl, zdg (zcq rfl rfl rfl rfl) hb3⟩
    · exact .inl ⟨rfl, zaj (zap rfl) rfl⟩
    · exact .inr ⟨rfl, rfl⟩
    · exact .inr ⟨rfl, rfl⟩
    · exact .inr ⟨rfl, rfl⟩
    · exact .inr ⟨rfl, rfl⟩
    · exact .inr ⟨rfl, rfl⟩
    · exact .inr ⟨rfl, rfl⟩
    · exact .inr ⟨rfl, rfl⟩
    · exact .inr ⟨rfl, rfl⟩
    · exact .inr ⟨rfl, rfl⟩
    · exact .inr ⟨rfl, rfl⟩
    · exact .inr ⟨rfl, rfl⟩
    · exact .inr ⟨rfl, rfl⟩
    · exact .inr ⟨rfl, rfl⟩
    · exact .inr ⟨rfl, rfl⟩
    exact .inl ⟨rfl, zaj (zap rfl) rfl⟩
   refine zac [30, 7, 3, 2, 0] rfl ?_
   simp only [List.drop_succ_cons, List.drop_zero]
   refine zac [30, 7, 3, 2, 0] rfl (zae (zaa (zbb rfl (zaf (zab ?_)))))
   refine zad 1 rfl (zac [30, 7, 3, 2, 0] rfl (zae (zaa ?_)))
   refine zbl ?_
   refine zbf ?_
   refine zao (zao ?_)
   refine zbf ?_
   refine zao ?_
   exact zch rfl rfl (congrArg _ (pBe_no (strict_no (j := j) (by omega) (by first | exact .inl (by omega) | exact .inr ⟨by omega, by omega⟩))).symm)
  have hb3p : ¬ (xs.getD j 0 < 0) := of_decide_eq_false hb3
  rcases Bool.eq_false_or_eq_true (decide (0 < (j : Int))) with hb4 | hb4
  ·
   have hb4p : 0 < (j : Int) := of_decide_eq_true hb4
   rcases Bool.eq_false_or_eq_true (decide (xs.getD j 0 ≤ xs.getD (((j : Int) - 1).toNat) 0)) with hb5 | hb5
   ·
    have hb5p : xs.getD j 0 ≤ xs.getD (((j : Int) - 1).toNat) 0 := of_decide_eq_true hb5
    refine zca 21 [[], [], [0, 1], [2], [3], [4], [5], [5, 6], [5, 7], [8], [8], [8, 9, 10], [8, 11], [8], [8], [8, 14], [8, 13, 15], [8, 16], [8, 12, 17], [5, 8, 18], [5, 19]] [10, 11, 12, 13, 14, 15, 16, 17, 18, 19, 20, 21, 22, 23, 24, 25, 26, 27, 28, 29, 30] [v, .int .i64 (j : Int), elP v (((j : Int)).toNat * 1), .int .i64 (xs.getD j 0), .bool false, .bool false, .int .i64 (j : Int), .bool true, .bool true, v, .int .i64 (j : Int), elP v (((j : Int)).toNat * 1), .int .i64 (xs.getD j 0), v, .int .i64 (j : Int), .int .i64 ((j : Int) - 1), elP v (((j : Int) - 1).toNat * 1), .int .i64 (xs.getD (((j : Int) - 1).toNat) 0), .bool true, .bool true, .bool true] (by kernel_rfl) rfl ?_ ?_
    ·
     refine ⟨?_, ?_, ?_, ?_, ?_, ?_, ?_, ?_, ?_, ?_, ?_, ?_, ?_, ?_, ?_, ?_, ?_, ?_, ?_, ?_, ?_, trivial⟩
     · exact .inl ⟨rfl, zaj (zap rfl) rfl⟩
     · exact .inl ⟨rfl, zaj (zap rfl) rfl⟩
     · exact .inl ⟨rfl, zaj (zal (s := 1) rfl Try.underlying26 (by kernel_rfl) rfl rfl (zak hv) (by omega) (by omega)) rfl⟩
     · exact .inl ⟨rfl, zaj (zam (u := .int .i64 (xs.getD j 0)) rfl (by kernel_rfl) rfl (zak hv) (zbg (show _ < xs.length by omega))) rfl⟩
     · exact .inl ⟨rfl, zdg (zcq rfl rfl rfl rfl) hb3⟩
     · exact .inl ⟨rfl, zaj (zap rfl) rfl⟩
     · exact .inl ⟨rfl, zaj (zap rfl) rfl⟩
     · exact .inl ⟨rfl, zdg (zcq rfl rfl rfl rfl) hb4⟩
     · exact .inl ⟨rfl, zaj (zap rfl) rfl⟩
     · exact .inl ⟨rfl, zaj (zap rfl) rfl⟩
     · exact .inl ⟨rfl, zaj (zap rfl) rfl⟩
     · exact .inl ⟨rfl, zaj (zal (s := 1) rfl Try.underlying26 (by kernel_rfl) rfl rfl (zak hv) (by omega) (by omega)) rfl⟩
     · exact .inl ⟨rfl, zaj (zam (u := .int .i64 (xs.getD j 0)) rfl (by kernel_rfl) rfl (zak hv) (zbg (show _ < xs.length by omega))) rfl⟩
     · exact .inl ⟨rfl, zaj (zap rfl) rfl⟩
     · exact .inl ⟨rfl, zaj (zap rfl) rfl⟩
     · exact .inl ⟨rfl, zaj (zdb rfl rfl rfl (by constructor <;> omega)) rfl⟩
     · exact .inl ⟨rfl, zaj (zal (s := 1) rfl Try.underlying26 (by kernel_rfl) rfl rfl (zak hv) (by omega) (by omega)) rfl⟩
     · exact .inl ⟨rfl, zaj (zam (u := .int .i64 (xs.getD (((j : Int) - 1).toNat) 0)) rfl (by kernel_rfl) rfl (zak hv) (zbg (show _ < xs.length by omega))) rfl⟩
     · exact .inl ⟨rfl, zdg (zcq rfl rfl rfl rfl) hb5⟩
     · exact .inl ⟨rfl, zaj (zap rfl) rfl⟩
     exact .inl ⟨rfl, zaj (zap rfl) rfl⟩
    refine zac [30, 7, 3, 2, 0] rfl ?_
    simp only [List.drop_succ_cons, List.drop_zero]
    refine zac [30, 7, 3, 2, 0] rfl (zae (zaa (zbb rfl (zaf (zab ?_)))))
    refine zad 1 rfl (zac [30, 7, 3, 2, 0] rfl (zae (zaa ?_)))
    refine zbl ?_
    refine zbf ?_
    refine zao (zao ?_)
    refine zbf ?_
    refine zao ?_
    exact zch rfl rfl (congrArg _ (pBe_no (strict_no (j := j) (by omega) (by first | exact .inl (by omega) | exact .inr ⟨by omega, by omega⟩))).symm)
   have hb5p : ¬ (xs.getD j 0 ≤ xs.getD (((j : Int) - 1).toNat) 0) := of_decide_eq_false hb5
   refine zca 21 [[], [], [0, 1], [2], [3], [4], [5], [5, 6], [5, 7], [8], [8], [8, 9, 10], [8, 11], [8], [8], [8, 14], [8, 13, 15], [8, 16], [8, 12, 17], [5, 8, 18], [5, 19]] [10, 11, 12, 13, 14, 15, 16, 17, 18, 19, 20, 21, 22, 23, 24, 25, 26, 27, 28, 29, 30] [v, .int .i64 (j : Int), elP v (((j : Int)).toNat * 1), .int .i64 (xs.getD j 0), .bool false, .bool false, .int .i64 (j : Int), .bool true, .bool true, v, .int .i64 (j : Int), elP v (((j : Int)).toNat * 1), .int .i64 (xs.getD j 0), v, .int .i64 (j : Int), .int .i64 ((j : Int) - 1), elP v (((j : Int) - 1).toNat * 1), .int .i64 (xs.getD (((j : Int) - 1).toNat) 0), .bool false, .bool false, .bool false] (by kernel_rfl) rfl ?_ ?_
   ·
    refine ⟨?_, ?_, ?_, ?_, ?_, ?_, ?_, ?_, ?_, ?_, ?_, ?_, ?_, ?_, ?_, ?_, ?_, ?_, ?_, ?_, ?_, trivial⟩
    · exact .inl ⟨rfl, zaj (zap rfl) rfl⟩
    · exact .inl ⟨rfl, zaj (zap rfl) rfl⟩
    · exact .inl ⟨rfl, zaj (zal (s := 1) rfl Try.underlying26 (by kernel_rfl) rfl rfl (zak hv) (by omega) (by omega)) rfl⟩
    · exact .inl ⟨rfl, zaj (zam (u := .int .i64 (xs.getD j 0)) rfl (by kernel_rfl) rfl (zak hv) (zbg (show _ < xs.length by omega))) rfl⟩
    · exact .inl ⟨rfl, zdg (zcq rfl rfl rfl rfl) hb3⟩
    · exact .inl ⟨rfl, zaj (zap rfl) rfl⟩
    · exact .inl ⟨rfl, zaj (zap rfl) rfl⟩
    · exact .inl ⟨rfl, zdg (zcq rfl rfl rfl rfl) hb4⟩
    · exact .inl ⟨rfl, zaj (zap rfl) rfl⟩
    · exact .inl ⟨rfl, zaj (zap rfl) rfl⟩
    · exact .inl ⟨rfl, zaj (zap rfl) rfl⟩
    · exact .inl ⟨rfl, zaj (zal (s := 1) rfl Try.underlying26 (by kernel_rfl) rfl rfl (zak hv) (by omega) (by omega)) rfl⟩
    · exact .inl ⟨rfl, zaj (zam (u := .int .i64 (xs.getD j 0)) rfl (by kernel_rfl) rfl (zak hv) (zbg (show _ < xs.length by omega))) rfl⟩
    · exact .inl ⟨rfl, zaj (zap rfl) rfl⟩
    · exact .inl ⟨rfl, zaj (zap rfl) rfl⟩
    · exact .inl ⟨rfl, zaj (zdb rfl rfl rfl (by constructor <;> omega)) rfl⟩
    · exact .inl ⟨rfl, zaj (zal (s := 1) rfl Try.underlying26 (by kernel_rfl) rfl rfl (zak hv) (by omega) (by omega)) rfl⟩
    · exact .inl ⟨rfl, zaj (zam (u := .int .i64 (xs.getD (((j : Int) - 1).toNat) 0)) rfl (by kernel_rfl) rfl (zak hv) (zbg (show _ < xs.length by omega))) rfl⟩
    · exact .inl ⟨rfl, zdg (zcq rfl rfl rfl rfl) hb5⟩
    · exact .inl ⟨rfl, zaj (zap rfl) rfl⟩
    exact .inl ⟨rfl, zaj (zap rfl) rfl⟩
   refine zac [30, 7, 3, 2, 0] rfl ?_
   simp only [List.drop_succ_cons, List.drop_zero]
   refine zac [30, 7, 3, 2, 0] rfl (zae (zaa (zaq rfl (zaz (zai ?_)))))
   refine zaa (zab (zad 1 rfl (hl_v rfl rfl rfl (zbj rfl rfl rfl (by constructor <;> omega)) (zad 1 rfl (zac [30, 7, 3, 2, 0] rfl ?_)))))
   refine zae ?_
   exact zdh (j + 1) ⟨by omega, strict_step hk2 (by omega) (by first | exact .inl (by omega) | exact .inr (by omega))⟩ (by omega) (zan [3, 2, 0] rfl) (.slnil)
  have hb4p : ¬ (0 < (j : Int)) := of_decide_eq_false hb4
  refine zca 21 [[], [], [0, 1], [2], [3], [4], [5], [5, 6], [5, 7], [8], [8], [8], [8], [8], [8], [8], [8], [8], [8], [5, 8, 18], [5, 19]] [10, 11, 12, 13, 14, 15, 16, 17, 18, 19, 20, 21, 22, 23, 24, 25, 26, 27, 28, 29, 30] [v, .int .i64 (j : Int), elP v (((j : Int)).toNat * 1), .int .i64 (xs.getD j 0), .bool false, .bool false, .int .i64 (j : Int), .bool false, .bool false, undef, undef, undef, undef, undef, undef, undef, undef, undef, undef, .bool false, .bool false] (by kernel_rfl) rfl ?_ ?_
  ·
   refine ⟨?_, ?_, ?_, ?_, ?_, ?_, ?_, ?_, ?_, ?_, ?_, ?_, ?_, ?_, ?_, ?_, ?_, ?_, ?_, ?_, ?_, trivial⟩
   · exact .inl ⟨rfl, zaj (zap rfl) rfl⟩
   · exact .inl ⟨rfl, zaj (zap rfl) rfl⟩
   · exact .inl ⟨rfl, zaj (zal (s := 1) rfl Try.underlying26 (by kernel_rfl) rfl rfl (zak hv) (by omega) (by omega)) rfl⟩
   · exact .inl ⟨rfl, zaj (zam (u := .int .i64 (xs.getD j 0)) rfl (by kernel_rfl) rfl (zak hv) (zbg (show _ < xs.length by omega))) rfl⟩
   · exact .inl ⟨rfl, zdg (zcq rfl rfl rfl rfl) hb3⟩
   · exact .inl ⟨rfl, zaj (zap rfl) rfl⟩
   · exact .inl ⟨rfl, zaj (zap rfl) rfl⟩
   · exact .inl ⟨rfl, zdg (zcq rfl rfl rfl rfl) hb4⟩
   · exact .inl ⟨rfl, zaj (zap rfl) rfl⟩
   · exact .inr ⟨rfl, rfl⟩
   · exact .inr ⟨rfl, rfl⟩
   · exact .inr ⟨rfl, rfl⟩
   · exact .inr ⟨rfl, rfl⟩
   · exact .inr ⟨rfl, rfl⟩
   · exact .inr ⟨rfl, rfl⟩
   · exact .inr ⟨rfl, rfl⟩
   · exact .inr ⟨rfl, rfl⟩
   · exact .inr ⟨rfl, rfl⟩
   · exact .inr ⟨rfl, rfl⟩
   · exact .inl ⟨rfl, zaj (zap rfl) rfl⟩
   exact .inl ⟨rfl, zaj (zap rfl) rfl⟩
  refine zac [30, 7, 3, 2, 0] rfl ?_
  simp only [List.drop_succ_cons, List.drop_zero]
  refine zac [30, 7, 3, 2, 0] rfl (zae (zaa (zaq rfl (zaz (zai ?_)))))
  refine zaa (zab (zad 1 rfl (hl_v rfl rfl rfl (zbj rfl rfl rfl (by constructor <;> omega)) (zad 1 rfl (zac [30, 7, 3, 2, 0] rfl ?_)))))
  refine zae ?_
  exact zdh (j + 1) ⟨by omega, strict_step hk2 (by omega) (by first | exact .inl (by omega) | exact .inr (by omega))⟩ (by omega) (zan [3, 2, 0] rfl) (.slnil)
 refine zac [7, 3, 2, 0] rfl (zae (zaa (zaq rfl ?_)))
 refine zbp ?_
 refine zah (zah ?_)
 refine zav ?_
 refine zaa (zaf (zab (zad 1 rfl (zac [7, 3, 2, 0] rfl (zae ?_)))))
 refine zaa ?_
 refine zbl ?_
 exact zch rfl rfl (congrArg _ (pBe_yes (fun i hi => hk2 i (by omega))).symm)
set_option maxHeartbeats 4000000 in
set_option maxRecDepth 100000 in
theorem CutLessE_ans (xs ys : List Int) (u v : Value) (w : World) (hu : RdsW w u 1 xs.length (xs.map (Value.int .i64))) (hv : RdsW w v 1 ys.length (ys.map (Value.int .i64))) (hlen : xs.length ≤ 1000000) :
   Calls Try.prog 109 #[u, v] w (Ans w (.bool (pBe (CLessE xs ys)))) := by
 refine zbq (N := 40) (args := [u, v]) Try.func109 rfl rfl ?_
 refine zbt _ [1, 0] rfl (zaf (zab (zad 1 rfl (zac [4, 1, 0] rfl (zae ?_)))))
 refine zaa (zaf (zaf (zab (zad 1 rfl (hl_v rfl rfl rfl (zbo rfl Try.underlying26 rfl (zak hu)) ?_)))))
 refine zad 1 rfl (hl_v rfl rfl rfl (zbo rfl Try.underlying26 rfl (zak hv)) ?_)
 refine hl_neq rfl rfl rfl rfl rfl rfl (fun h1 => ?_) (fun h1 => ?_)
 ·
  refine zac [10, 4, 1, 0] rfl (zae (zaa (zbb rfl (zaf (zab ?_)))))
  refine zad 1 rfl (hl_v rfl rfl rfl (zbo rfl Try.underlying26 rfl (zak hu)) (zad 1 rfl (hl_v rfl rfl rfl (zbo rfl Try.underlying26 rfl (zak hv)) ?_)))
  refine zbw rfl rfl rfl rfl rfl rfl (fun h2 => ?_) (fun h2 => ?_)
  ·
   refine zad 1 rfl (zac [10, 4, 1, 0] rfl (zae (zaa ?_)))
   refine zbl ?_
   refine zao ?_
   exact zch rfl rfl (congrArg Value.bool (by first | exact (clessE_eq (by omega) (fun j2 hj2 => hk2 j2 (by omega))).symm | (rw [zfu (by omega)]; first | exact (decide_eq_true (by omega)).symm | exact (decide_eq_false (by omega)).symm) | (rw [clessE_at (i := j) (by omega) (by omega) hk2 (by omega)]; first | exact (decide_eq_true (by omega)).symm | exact (decide_eq_false (by omega)).symm)))
  refine zad 1 rfl (zac [10, 4, 1, 0] rfl (zae (zaa ?_)))
  refine zbl ?_
  refine zao ?_
  exact zch rfl rfl (congrArg Value.bool (by first | exact (clessE_eq (by omega) (fun j2 hj2 => hk2 j2 (by omega))).symm | (rw [zfu (by omega)]; first | exact (decide_eq_true (by omega)).symm | exact (decide_eq_false (by omega)).symm) | (rw [clessE_at (i := j) (by omega) (by omega) hk2 (by omega)]; first | exact (decide_eq_true (by omega)).symm | exact (decide_eq_false (by omega)).symm)))
 refine zac [10, 4, 1, 0] rfl (zae (zaa (zaq rfl (zaz (zaa ?_)))))
 refine zaf (zaf (zab (zad 1 rfl (zac [10, 5, 4, 1, 0] rfl (zae ?_)))))
 refine zaa (zax ?_)
 refine zed (α := Nat) (fun j => []) (fun j => [(0, u), (1, v), (4, .bool false), (5, .int .i64 (j : Int)), (10, .bool false)]) (fun j => j ≤ xs.length ∧ ∀ i, i < j → xs.getD i 0 = ys.getD i 0) (fun j => xs.length - j) 0 ⟨by omega, fun i hi => absurd hi (by omega)⟩ (zan [10, 5, 4, 1, 0] rfl) (.slnil) ?_
 intro j hi3
 obtain ⟨hk1, hk2⟩ := hi3
 refine zaf (zaf (zab (zad 2 rfl (hl_v rfl rfl rfl (zbo rfl Try.underlying26 rfl (zak hu)) ?_))))
 refine zbw rfl rfl rfl rfl rfl rfl (fun h4 => ?_) (fun h4 => ?_)
 ·
  refine zac [19, 10, 5, 4, 1, 0] rfl (zae (zaa (zbb rfl (zaz (zaa ?_)))))
  refine zaf (zax (zaf ?_))
  rcases Bool.eq_false_or_eq_true ((xs.getD j 0) != (ys.getD j 0)) with hb5 | hb5
  ·
   have hb5p : xs.getD j 0 ≠ ys.getD j 0 := bne_iff_ne.1 hb5
   refine zca 9 [[], [], [0, 1], [2], [], [], [4, 5], [6], [3, 7]] [22, 23, 24, 25, 26, 27, 28, 29, 30] [u, .int .i64 (j : Int), elP u (((j : Int)).toNat * 1), .int .i64 (xs.getD j 0), v, .int .i64 (j : Int), elP v (((j : Int)).toNat * 1), .int .i64 (ys.getD j 0), .bool true] (by kernel_rfl) rfl ?_ ?_
   ·
    refine ⟨?_, ?_, ?_, ?_, ?_, ?_, ?_, ?_, ?_, trivial⟩
    · exact .inl ⟨rfl, zaj (zap rfl) rfl⟩
    · exact .inl ⟨rfl, zaj (zap rfl) rfl⟩
    · exact .inl ⟨rfl, zaj (zal (s := 1) rfl Try.underlying26 (by kernel_rfl) rfl rfl (zak hu) (by omega) (by omega)) rfl⟩
    · exact .inl ⟨rfl, zaj (zam (u := .int .i64 (xs.getD j 0)) rfl (by kernel_rfl) rfl (zak hu) (zbg (show _ < xs.length by omega))) rfl⟩
    · exact .inl ⟨rfl, zaj (zap rfl) rfl⟩
    · exact .inl ⟨rfl, zaj (zap rfl) rfl⟩
    · exact .inl ⟨rfl, zaj (zal (s := 1) rfl Try.underlying26 (by kernel_rfl) rfl rfl (zak hv) (by omega) (by omega)) rfl⟩
    · exact .inl ⟨rfl, zaj (zam (u := .int .i64 (ys.getD j 0)) rfl (by kernel_rfl) rfl (zak hv) (zbg (show _ < ys.length by omega))) rfl⟩
    exact .inl ⟨rfl, zdg (zcq rfl rfl rfl rfl) hb5⟩
   refine zac [30, 19, 10, 5, 4, 1, 0] rfl ?_
   simp only [List.drop_succ_cons, List.drop_zero]
   refine zac [30, 19, 10, 5, 4, 1, 0] rfl (zae (zaa (zbb rfl (zaf ?_))))
   rcases Bool.eq_false_or_eq_true (decide (xs.getD j 0 < ys.getD j 0)) with hb6 | hb6
   ·
    have hb6p : xs.getD j 0 < ys.getD j 0 := of_decide_eq_true hb6
    refine zca 9 [[], [], [0, 1], [2], [], [], [4, 5], [6], [3, 7]] [31, 32, 33, 34, 35, 36, 37, 38, 39] [u, .int .i64 (j : Int), elP u (((j : Int)).toNat * 1), .int .i64 (xs.getD j 0), v, .int .i64 (j : Int), elP v (((j : Int)).toNat * 1), .int .i64 (ys.getD j 0), .bool true] (by kernel_rfl) rfl ?_ ?_
    ·
     refine ⟨?_, ?_, ?_, ?_, ?_, ?_, ?_, ?_, ?_, trivial⟩
     · exact .inl ⟨rfl, zaj (zap rfl) rfl⟩
     · exact .inl ⟨rfl, zaj (zap rfl) rfl⟩
     · exact .inl ⟨rfl, zaj (zal (s := 1) rfl Try.underlying26 (by kernel_rfl) rfl rfl (zak hu) (by omega) (by omega)) rfl⟩
     · exact .inl ⟨rfl, zaj (zam (u := .int .i64 (xs.getD j 0)) rfl (by kernel_rfl) rfl (zak hu) (zbg (show _ < xs.length by omega))) rfl⟩
     · exact .inl ⟨rfl, zaj (zap rfl) rfl⟩
     · exact .inl ⟨rfl, zaj (zap rfl) rfl⟩
     · exact .inl ⟨rfl, zaj (zal (s := 1) rfl Try.underlying26 (by kernel_rfl) rfl rfl (zak hv) (by omega) (by omega)) rfl⟩
     · exact .inl ⟨rfl, zaj (zam (u := .int .i64 (ys.getD j 0)) rfl (by kernel_rfl) rfl (zak hv) (zbg (show _ < ys.length by omega))) rfl⟩
     exact .inl ⟨rfl, zdg (zcq rfl rfl rfl rfl) hb6⟩
    refine zac [39, 30, 19, 10, 5, 4, 1, 0] rfl ?_
    simp only [List.drop_succ_cons, List.drop_zero]
    refine zad 1 rfl (zac [30, 19, 10, 5, 4, 1, 0] rfl (zae (zaa ?_)))
    refine zbl ?_
    refine zbf ?_
    refine zao (zao ?_)
    refine zbf ?_
    refine zao ?_
    exact zch rfl rfl (congrArg Value.bool (by first | exact (clessE_eq (by omega) (fun j2 hj2 => hk2 j2 (by omega))).symm | (rw [zfu (by omega)]; first | exact (decide_eq_true (by omega)).symm | exact (decide_eq_false (by omega)).symm) | (rw [clessE_at (i := j) (by omega) (by omega) hk2 (by omega)]; first | exact (decide_eq_true (by omega)).symm | exact (decide_eq_false (by omega)).symm)))
   have hb6p : ¬ (xs.getD j 0 < ys.getD j 0) := of_decide_eq_false hb6
   refine zca 9 [[], [], [0, 1], [2], [], [], [4, 5], [6], [3, 7]] [31, 32, 33, 34, 35, 36, 37, 38, 39] [u, .int .i64 (j : Int), elP u (((j : Int)).toNat * 1), .int .i64 (xs.getD j 0), v, .int .i64 (j : Int), elP v (((j : Int)).toNat * 1), .int .i64 (ys.getD j 0), .bool false] (by kernel_rfl) rfl ?_ ?_
   ·
    refine ⟨?_, ?_, ?_, ?_, ?_, ?_, ?_, ?_, ?_, trivial⟩
    · exact .inl ⟨rfl, zaj (zap rfl) rfl⟩
    · exact .inl ⟨rfl, zaj (zap rfl) rfl⟩
    · exact .inl ⟨rfl, zaj (zal (s := 1) rfl Try.underlying26 (by kernel_rfl) rfl rfl (zak hu) (by omega) (by omega)) rfl⟩
    · exact .inl ⟨rfl, zaj (zam (u := .int .i64 (xs.getD j 0)) rfl (by kernel_rfl) rfl (zak hu) (zbg (show _ < xs.length by omega))) rfl⟩
    · exact .inl ⟨rfl, zaj (zap rfl) rfl⟩
    · exact .inl ⟨rfl, zaj (zap rfl) rfl⟩
    · exact .inl ⟨rfl, zaj (zal (s := 1) rfl Try.underlying26 (by kernel_rfl) rfl rfl (zak hv) (by omega) (by omega)) rfl⟩
    · exact .inl ⟨rfl, zaj (zam (u := .int .i64 (ys.getD j 0)) rfl (by kernel_rfl) rfl (zak hv) (zbg (show _ < ys.length by omega))) rfl⟩
    exact .inl ⟨rfl, zdg (zcq rfl rfl rfl rfl) hb6⟩
   refine zac [39, 30, 19, 10, 5, 4, 1, 0] rfl ?_
   simp only [List.drop_succ_cons, List.drop_zero]
   refine zad 1 rfl (zac [30, 19, 10, 5, 4, 1, 0] rfl (zae (zaa ?_)))
   refine zbl ?_
   refine zbf ?_
   refine zao (zao ?_)
   refine zbf ?_
   refine zao ?_
   exact zch rfl rfl (congrArg Value.bool (by first | exact (clessE_eq (by omega) (fun j2 hj2 => hk2 j2 (by omega))).symm | (rw [zfu (by omega)]; first | exact (decide_eq_true (by omega)).symm | exact (decide_eq_false (by omega)).symm) | (rw [clessE_at (i := j) (by omega) (by omega) hk2 (by omega)]; first | exact (decide_eq_true (by omega)).symm | exact (decide_eq_false (by omega)).symm)))
  have hb5p : xs.getD j 0 = ys.getD j 0 := (bne_eq_false_iff_eq.1 hb5)
  refine zca 9 [[], [], [0, 1], [2], [], [], [4, 5], [6], [3, 7]] [22, 23, 24, 25, 26, 27, 28, 29, 30] [u, .int .i64 (j : Int), elP u (((j : Int)).toNat * 1), .int .i64 (xs.getD j 0), v, .int .i64 (j : Int), elP v (((j : Int)).toNat * 1), .int .i64 (ys.getD j 0), .bool false] (by kernel_rfl) rfl ?_ ?_
  ·
   refine ⟨?_, ?_, ?_, ?_, ?_, ?_, ?_, ?_, ?_, trivial⟩
   · exact .inl ⟨rfl, zaj (zap rfl) rfl⟩
   · exact .inl ⟨rfl, zaj (zap rfl) rfl⟩
   · exact .inl ⟨rfl, zaj (zal (s := 1) rfl Try.underlying26 (by kernel_rfl) rfl rfl (zak hu) (by omega) (by omega)) rfl⟩
   · exact .inl ⟨rfl, zaj (zam (u := .int .i64 (xs.getD j 0)) rfl (by kernel_rfl) rfl (zak hu) (zbg (show _ < xs.length by omega))) rfl⟩
   · exact .inl ⟨rfl, zaj (zap rfl) rfl⟩
   · exact .inl ⟨rfl, zaj (zap rfl) rfl⟩
   · exact .inl ⟨rfl, zaj (zal (s := 1) rfl Try.underlying26 (by kernel_rfl) rfl rfl (zak hv) (by omega) (by omega)) rfl⟩
   · exact .inl ⟨rfl, zaj (zam (u := .int .i64 (ys.getD j 0)) rfl (by kernel_rfl) rfl (zak hv) (zbg (show _ < ys.length by omega))) rfl⟩
   exact .inl ⟨rfl, zdg (zcq rfl rfl rfl rfl) hb5⟩
  refine zac [30, 19, 10, 5, 4, 1, 0] rfl ?_
  simp only [List.drop_succ_cons, List.drop_zero]
  refine zac [30, 19, 10, 5, 4, 1, 0] rfl (zae (zaa (zaq rfl (zaz (zai ?_)))))
  refine zaa (zab (zad 1 rfl (hl_v rfl rfl rfl (zbj rfl rfl rfl (by constructor <;> omega)) (zad 1 rfl (zac [30, 19, 10, 5, 4, 1, 0] rfl ?_)))))
  refine zae ?_
  exact zdh (j + 1) ⟨by omega, fun i hi => by by_cases hij : i = j; (subst hij; assumption); exact hk2 i (by omega)⟩ (by omega) (zan [10, 5, 4, 1, 0] rfl) (.slnil)
 refine zac [19, 10, 5, 4, 1, 0] rfl (zae (zaa (zaq rfl ?_)))
 refine zbp ?_
 refine zah (zah ?_)
 refine zav ?_
 refine zaa (zaf (zab (zad 1 rfl (zac [19, 10, 5, 4, 1, 0] rfl (zae ?_)))))
 refine zaa ?_
 refine zbl ?_
 exact zch rfl rfl (congrArg Value.bool (by first | exact (clessE_eq (by omega) (fun j2 hj2 => hk2 j2 (by omega))).symm | (rw [zfu (by omega)]; first | exact (decide_eq_true (by omega)).symm | exact (decide_eq_false (by omega)).symm) | (rw [clessE_at (i := j) (by omega) (by omega) hk2 (by omega)]; first | exact (decide_eq_true (by omega)).symm | exact (decide_eq_false (by omega)).symm)))
set_option maxHeartbeats 4000000 in
set_option maxRecDepth 100000 in
theorem l13Within_ans (xs ys : List Int) (u v : Value) (w : World) (hu : RdsW w u 1 xs.length (xs.map (Value.int .i64))) (hv : RdsW w v 1 ys.length (ys.map (Value.int .i64))) (hlen : xs.length ≤ 1000000 ∧ ys.length ≤ 1000000) :
   Calls Try.prog 107 #[u, v] w (Ans w (.bool (xs.all (hasB ys)))) := by
 refine zbq (N := 19) (args := [u, v]) Try.func107 rfl rfl ?_
 refine zbt _ [1, 0] rfl (zaf (zab (zad 1 rfl (zac [4, 1, 0] rfl (zae ?_)))))
 refine zaa (zaf (zaf (zab (zad 1 rfl (zac [5, 4, 1, 0] rfl ?_)))))
 refine zae (zaa (zax ?_))
 refine zed (α := Nat) (fun j => []) (fun j => [(0, u), (1, v), (4, .bool false), (5, .int .i64 (j : Int))]) (fun j => j ≤ xs.length ∧ ∀ i, i < j → hasB ys (xs.getD i 0) = true) (fun j => xs.length - j) 0 ⟨by omega, fun i hi => absurd hi (by omega)⟩ (zan [5, 4, 1, 0] rfl) (.slnil) ?_
 intro j hi1
 obtain ⟨hk1, hk2⟩ := hi1
 refine zaf (zaf (zab (zad 2 rfl (hl_v rfl rfl rfl (zbo rfl Try.underlying26 rfl (zak hu)) ?_))))
 refine zbw rfl rfl rfl rfl rfl rfl (fun h2 => ?_) (fun h2 => ?_)
 ·
  refine zac [9, 5, 4, 1, 0] rfl (zae (zaa (zbb rfl (zaz (zaa ?_)))))
  refine zaf (zax (zaf (zab (zad 3 rfl (hl_v rfl rfl rfl (zal (s := 1) rfl Try.underlying26 (by kernel_rfl) rfl rfl (zak hu) (by omega) (by omega)) ?_)))))
  refine hl_v rfl rfl rfl (zam (u := .int .i64 (xs.getD j 0)) rfl (by kernel_rfl) rfl (zak hu) (zbg (show _ < xs.length by omega))) ?_
  refine zbm rfl rfl rfl (zba (by kernel_rfl) rfl (fun w hm => zbk (zeh ys (xs.getD j 0) _ w ((zak hv) w hm) (by omega)))) ?_
  refine zck (fun h3 => ?_) (fun h3 => ?_)
  ·
   refine zad 1 rfl (zac [18, 9, 5, 4, 1, 0] rfl (zae (zaa (zaq rfl (zaz ?_)))))
   refine zai (zaa (zab (zad 1 rfl (hl_v rfl rfl rfl (zbj rfl rfl rfl (by constructor <;> omega)) (zad 1 rfl ?_)))))
   refine zac [18, 9, 5, 4, 1, 0] rfl (zae ?_)
   exact zdh (j + 1) ⟨by omega, fun i hi => by by_cases hij : i = j; (subst hij; assumption); exact hk2 i (by omega)⟩ (by omega) (zan [5, 4, 1, 0] rfl) (.slnil)
  refine zad 1 rfl (zac [18, 9, 5, 4, 1, 0] rfl (zae (zaa (zbb rfl (zaf ?_)))))
  refine zab (zad 1 rfl (zac [18, 9, 5, 4, 1, 0] rfl (zae (zaa ?_))))
  refine zbl ?_
  refine zbf ?_
  refine zao (zao ?_)
  refine zbf ?_
  refine zao ?_
  exact zch rfl rfl (congrArg _ (Bool.eq_false_iff.2 (fun h => by have h2 := List.all_eq_true.1 h _ (zcp (es := xs) (i := j) (d := (0 : Int)) (by omega)); rw [show hasB ys (xs.getD j 0) = false by assumption] at h2; cases h2)).symm)
 refine zac [9, 5, 4, 1, 0] rfl (zae (zaa (zaq rfl ?_)))
 refine zbp ?_
 refine zah (zah ?_)
 refine zav ?_
 refine zaa (zaf (zab (zad 1 rfl (zac [9, 5, 4, 1, 0] rfl (zae ?_)))))
 refine zaa ?_
 refine zbl ?_
 exact zch rfl rfl (congrArg _ (List.all_eq_true.2 (fun x hx => by obtain ⟨i, hi, rfl⟩ := List.mem_iff_getElem.1 hx; have := hk2 i (by omega); rwa [List.getD_eq_getElem?_getD, List.getElem?_eq_getElem hi] at this)).symm)
set_option maxHeartbeats 4000000 in
set_option maxRecDepth 100000 in
theorem MergeE_ret (xs ys : List Int) (u v : Value) (w : World) (hu : RdsW w u 1 xs.length (xs.map (Value.int .i64))) (hv : RdsW w v 1 ys.length (ys.map (Value.int .i64))) (hxl : xs.length ≤ 100000) (hyl : ys.length ≤ 100000) :
   Calls Try.prog 105 #[u, v] w (Ret w (fun u_ p_ => ∃ (mv : Value) (us : List Int) (mb : Bool), u_ = .tuple #[mv, .bool mb] ∧ p_ = [rowE 3 1 mv us.length (us.map (Value.int .i64))] ∧ us.length ≤ 4)) := by
 refine zbq (N := 101) (args := [u, v]) Try.func105 rfl rfl ?_
 refine zbt _ [1, 0] rfl (zaf (zab (zad 2 rfl (zac [5, 4, 1, 0] rfl (zae ?_)))))
 refine zaa (zaf (zab ?_))
 refine zbr rfl rfl rfl (zcr (s := 1) rfl Try.underlying26 (by kernel_rfl)) ?_
 intro g1
 refine zad 1 rfl (zac [6, 5, 4, 1, 0] rfl (zae (zaa (zaf (zaf ?_)))))
 refine zab (zad 1 rfl ?_)
 refine zbm rfl rfl rfl (zba (by kernel_rfl) rfl (fun w hm => zbk (l13Strict_ans xs _ w ((zak hu) w hm) (by omega)))) ?_
 refine zck (fun h2 => ?_) (fun h2 => ?_)
 ·
  refine zad 3 rfl ?_
  refine zbm rfl rfl rfl (zba (by kernel_rfl) rfl (fun w hm => zbk (l13Strict_ans ys _ w ((zak hv) w hm) (by omega)))) ?_
  refine zck (fun h3 => ?_) (fun h3 => ?_)
  ·
   refine zad 2 rfl (zac [17, 6, 5, 4, 1, 0] rfl (zae (zaa (zaq rfl (zaz ?_)))))
   refine zaa (zaf (zab (zad 1 rfl (zac [17, 7, 6, 5, 4, 1, 0] rfl (zae ?_)))))
   refine zaa (zaf (zab (zad 1 rfl (zac [17, 8, 7, 6, 5, 4, 1, 0] rfl (zae ?_)))))
   refine zaa (zaf (zax ?_))
   refine zdl (α := Nat) (β := Nat) (γ := Value) (δ := List Int) (fun i j gu os => [rowE 3 1 gu os.length (os.map (Value.int .i64))]) (fun i j gu os => [(0, u), (1, v), (4, .slice none 0 0), (5, .bool false), (6, gu), (7, .int .i64 (i : Int)), (8, .int .i64 (j : Int)), (17, .bool false)]) (fun i j gu os => i ≤ xs.length ∧ j ≤ ys.length ∧ os.length ≤ 4) (fun i j gu os => xs.length - i + (ys.length - j)) 0 0 _ [] ⟨Nat.zero_le _, Nat.zero_le _, by simp⟩ (zan [17, 8, 7, 6, 5, 4, 1, 0] rfl) ((.cons_cons _ .slnil)) ?_
   intro i j gu os hi4
   obtain ⟨hi, hj, hol⟩ := hi4
   refine zaf (zaf (zab (zad 2 rfl (hl_v rfl rfl rfl (zbo rfl Try.underlying26 rfl (zak hu)) ?_))))
   refine zbw rfl rfl rfl rfl rfl rfl (fun h5 => ?_) (fun h5 => ?_)
   ·
    refine zad 3 rfl (zbi rfl rfl rfl (zbi rfl rfl rfl (zad 1 rfl (zac [28, 17, 8, 7, 6, 5, 4, 1, 0] rfl (zae ?_)))))
    refine zaa (zbb rfl (zaz (zaa (zax (zaf ?_)))))
    refine zaf (zab (zad 1 rfl (hl_v rfl rfl rfl (zbo rfl Try.underlying26 rfl (zas 0 rfl)) ?_)))
    refine zdi rfl rfl rfl rfl rfl rfl (fun h6 => ?_) (fun h6 => ?_)
    ·
     refine zac [31, 28, 17, 8, 7, 6, 5, 4, 1, 0] rfl (zae (zaa (zbb rfl (zaf (zab ?_)))))
     refine zbr rfl rfl rfl (zcr (s := 1) rfl Try.underlying26 (by kernel_rfl)) ?_
     intro g7
     refine zad 2 rfl (zac [31, 28, 17, 8, 7, 6, 5, 4, 1, 0] rfl (zae (zaa ?_)))
     refine zbl ?_
     refine zao ?_
     refine zbf ?_
     refine zao ?_
     refine zbf ?_
     refine zao ?_
     exact zde (rs := [.tmp 4, .tmp 5]) (vs := [.slice (some ⟨g7, 0, none⟩) 0 0, .bool false]) (post := [rowE 3 1 (.slice (some ⟨g7, 0, none⟩) 0 0) 0 ([])]) rfl ⟨rfl, rfl, trivial⟩ rfl ((.cons_cons _ (.cons _ .slnil))) ⟨_, [], false, rfl, rfl, by simp⟩
    refine zac [31, 28, 17, 8, 7, 6, 5, 4, 1, 0] rfl (zae (zaa (zaq rfl (zaz (zaa ?_)))))
    refine zax ?_
    refine hc_meet1 (α := Bool) (fun b4 => [rowE 3 1 gu os.length (os.map (Value.int .i64))]) (fun b4 => [(0, u), (1, v), (4, .slice none 0 0), (5, .bool false), (6, gu), (7, .int .i64 (i : Int)), (8, .int .i64 (j : Int)), (17, .bool false), (28, .bool true), (31, .bool false), (44, .bool b4)]) (fun b4 => (b4 = true → i < xs.length) ∧ (b4 = false → j < ys.length)) ?_ ?_
    ·
     rcases Bool.eq_false_or_eq_true ((j : Int) == (ys.length : Int)) with hb8 | hb8
     ·
      have hb8p : (j : Int) = (ys.length : Int) := beq_iff_eq.1 hb8
      refine zca 21 [[], [], [1], [0, 2], [3], [4], [4], [4], [4], [4], [9], [9], [9], [9], [9], [9], [9], [9], [9], [4], [4, 19]] [45, 46, 47, 48, 49, 50, 51, 52, 53, 54, 55, 56, 57, 58, 59, 60, 61, 62, 63, 64, 65] [.int .i64 (j : Int), v, .int .i64 (ys.length : Int), .bool true, .bool true, undef, undef, undef, undef, undef, undef, undef, undef, undef, undef, undef, undef, undef, undef, undef, .bool true] (by kernel_rfl) rfl ?_ ?_
      ·
       refine ⟨?_, ?_, ?_, ?_, ?_, ?_, ?_, ?_, ?_, ?_, ?_, ?_, ?_, ?_, ?_, ?_, ?_, ?_, ?_, ?_, ?_, trivial⟩
       · exact .inl ⟨rfl, zaj (zap rfl) rfl⟩
       · exact .inl ⟨rfl, zaj (zap rfl) rfl⟩
       · exact .inl ⟨rfl, zaj (zbo rfl Try.underlying26 rfl (zak hv)) rfl⟩
       · exact .inl ⟨rfl, zdg (zcq rfl rfl rfl rfl) hb8⟩
       · exact .inl ⟨rfl, zaj (zap rfl) rfl⟩
       · exact .inr ⟨rfl, rfl⟩
       · exact .inr ⟨rfl, rfl⟩
       · exact .inr ⟨rfl, rfl⟩
       · exact .inr ⟨rfl, rfl⟩
       · exact .inr ⟨rfl, rfl⟩
       · exact .inr ⟨rfl, rfl⟩
       · exact .inr ⟨rfl, rfl⟩
       · exact .inr ⟨rfl, rfl⟩
       · exact .inr ⟨rfl, rfl⟩
       · exact .inr ⟨rfl, rfl⟩
       · exact .inr ⟨rfl, rfl⟩
       · exact .inr ⟨rfl, rfl⟩
       · exact .inr ⟨rfl, rfl⟩
       · exact .inr ⟨rfl, rfl⟩
       · exact .inr ⟨rfl, rfl⟩
       exact .inl ⟨rfl, zaj (zap rfl) rfl⟩
      refine zac [65, 31, 28, 17, 8, 7, 6, 5, 4, 1, 0] rfl ?_
      simp only [List.drop_succ_cons, List.drop_zero]
      refine zad 1 rfl (zac [44, 31, 28, 17, 8, 7, 6, 5, 4, 1, 0] rfl (zae ?_))
      exact zef true ⟨fun _ => by first | omega | contradiction, fun _ => by first | omega | contradiction⟩ (zan [44, 31, 28, 17, 8, 7, 6, 5, 4, 1, 0] rfl) ((.cons_cons _ .slnil))
     have hb8p : (j : Int) ≠ (ys.length : Int) := beq_eq_false_iff_ne.1 hb8
     rcases Bool.eq_false_or_eq_true (decide ((i : Int) < (xs.length : Int))) with hb9 | hb9
     ·
      have hb9p : (i : Int) < (xs.length : Int) := of_decide_eq_true hb9
      rcases Bool.eq_false_or_eq_true (decide (xs.getD i 0 < ys.getD j 0)) with hb10 | hb10
      ·
       have hb10p : xs.getD i 0 < ys.getD j 0 := of_decide_eq_true hb10
       refine zca 21 [[], [], [1], [0, 2], [3], [4], [4], [4, 6], [4, 5, 7], [4, 8], [9], [9], [9, 10, 11], [9, 12], [9], [9], [9, 14, 15], [9, 16], [9, 13, 17], [4, 9, 18], [4, 19]] [45, 46, 47, 48, 49, 50, 51, 52, 53, 54, 55, 56, 57, 58, 59, 60, 61, 62, 63, 64, 65] [.int .i64 (j : Int), v, .int .i64 (ys.length : Int), .bool false, .bool false, .int .i64 (i : Int), u, .int .i64 (xs.length : Int), .bool true, .bool true, u, .int .i64 (i : Int), elP u (((i : Int)).toNat * 1), .int .i64 (xs.getD i 0), v, .int .i64 (j : Int), elP v (((j : Int)).toNat * 1), .int .i64 (ys.getD j 0), .bool true, .bool true, .bool true] (by kernel_rfl) rfl ?_ ?_
       ·
        refine ⟨?_, ?_, ?_, ?_, ?_, ?_, ?_, ?_, ?_, ?_, ?_, ?_, ?_, ?_, ?_, ?_, ?_, ?_, ?_, ?_, ?_, trivial⟩
        · exact .inl ⟨rfl, zaj (zap rfl) rfl⟩
        · exact .inl ⟨rfl, zaj (zap rfl) rfl⟩
        · exact .inl ⟨rfl, zaj (zbo rfl Try.underlying26 rfl (zak hv)) rfl⟩
        · exact .inl ⟨rfl, zdg (zcq rfl rfl rfl rfl) hb8⟩
        · exact .inl ⟨rfl, zaj (zap rfl) rfl⟩
        · exact .inl ⟨rfl, zaj (zap rfl) rfl⟩
        · exact .inl ⟨rfl, zaj (zap rfl) rfl⟩
        · exact .inl ⟨rfl, zaj (zbo rfl Try.underlying26 rfl (zak hu)) rfl⟩
        · exact .inl ⟨rfl, zdg (zcq rfl rfl rfl rfl) hb9⟩
        · exact .inl ⟨rfl, zaj (zap rfl) rfl⟩
        · exact .inl ⟨rfl, zaj (zap rfl) rfl⟩
        · exact .inl ⟨rfl, zaj (zap rfl) rfl⟩
        · exact .inl ⟨rfl, zaj (zal (s := 1) rfl Try.underlying26 (by kernel_rfl) rfl rfl (zak hu) (by omega) (by omega)) rfl⟩
        · exact .inl ⟨rfl, zaj (zam (u := .int .i64 (xs.getD i 0)) rfl (by kernel_rfl) rfl (zak hu) (zbg (show _ < xs.length by omega))) rfl⟩
        · exact .inl ⟨rfl, zaj (zap rfl) rfl⟩
        · exact .inl ⟨rfl, zaj (zap rfl) rfl⟩
        · exact .inl ⟨rfl, zaj (zal (s := 1) rfl Try.underlying26 (by kernel_rfl) rfl rfl (zak hv) (by omega) (by omega)) rfl⟩
        · exact .inl ⟨rfl, zaj (zam (u := .int .i64 (ys.getD j 0)) rfl (by kernel_rfl) rfl (zak hv) (zbg (show _ < ys.length by omega))) rfl⟩
        · exact .inl ⟨rfl, zdg (zcq rfl rfl rfl rfl) hb10⟩
        · exact .inl ⟨rfl, zaj (zap rfl) rfl⟩
        exact .inl ⟨rfl, zaj (zap rfl) rfl⟩
       refine zac [65, 31, 28, 17, 8, 7, 6, 5, 4, 1, 0] rfl ?_
       simp only [List.drop_succ_cons, List.drop_zero]
       refine zad 1 rfl (zac [44, 31, 28, 17, 8, 7, 6, 5, 4, 1, 0] rfl (zae ?_))
       exact zef true ⟨fun _ => by first | omega | contradiction, fun _ => by first | omega | contradiction⟩ (zan [44, 31, 28, 17, 8, 7, 6, 5, 4, 1, 0] rfl) ((.cons_cons _ .slnil))
      have hb10p : ¬ (xs.getD i 0 < ys.getD j 0) := of_decide_eq_false hb10
      refine zca 21 [[], [], [1], [0, 2], [3], [4], [4], [4, 6], [4, 5, 7], [4, 8], [9], [9], [9, 10, 11], [9, 12], [9], [9], [9, 14, 15], [9, 16], [9, 13, 17], [4, 9, 18], [4, 19]] [45, 46, 47, 48, 49, 50, 51, 52, 53, 54, 55, 56, 57, 58, 59, 60, 61, 62, 63, 64, 65] [.int .i64 (j : Int), v, .int .i64 (ys.length : Int), .bool false, .bool false, .int .i64 (i : Int), u, .int .i64 (xs.length : Int), .bool true, .bool true, u, .int .i64 (i : Int), elP u (((i : Int)).toNat * 1), .int .i64 (xs.getD i 0), v, .int .i64 (j : Int), elP v (((j : Int)).toNat * 1), .int .i64 (ys.getD j 0), .bool false, .bool false, .bool false] (by kernel_rfl) rfl ?_ ?_
      ·
       refine ⟨?_, ?_, ?_, ?_, ?_, ?_, ?_, ?_, ?_, ?_, ?_, ?_, ?_, ?_, ?_, ?_, ?_, ?_, ?_, ?_, ?_, trivial⟩
       · exact .inl ⟨rfl, zaj (zap rfl) rfl⟩
       · exact .inl ⟨rfl, zaj (zap rfl) rfl⟩
       · exact .inl ⟨rfl, zaj (zbo rfl Try.underlying26 rfl (zak hv)) rfl⟩
       · exact .inl ⟨rfl, zdg (zcq rfl rfl rfl rfl) hb8⟩
       · exact .inl ⟨rfl, zaj (zap rfl) rfl⟩
       · exact .inl ⟨rfl, zaj (zap rfl) rfl⟩
       · exact .inl ⟨rfl, zaj (zap rfl) rfl⟩
       · exact .inl ⟨rfl, zaj (zbo rfl Try.underlying26 rfl (zak hu)) rfl⟩
       · exact .inl ⟨rfl, zdg (zcq rfl rfl rfl rfl) hb9⟩
       · exact .inl ⟨rfl, zaj (zap rfl) rfl⟩
       · exact .inl ⟨rfl, zaj (zap rfl) rfl⟩
       · exact .inl ⟨rfl, zaj (zap rfl) rfl⟩
       · exact .inl ⟨rfl, zaj (zal (s := 1) rfl Try.underlying26 (by kernel_rfl) rfl rfl (zak hu) (by omega) (by omega)) rfl⟩
       · exact .inl ⟨rfl, zaj (zam (u := .int .i64 (xs.getD i 0)) rfl (by kernel_rfl) rfl (zak hu) (zbg (show _ < xs.length by omega))) rfl⟩
       · exact .inl ⟨rfl, zaj (zap rfl) rfl⟩
       · exact .inl ⟨rfl, zaj (zap rfl) rfl⟩
       · exact .inl ⟨rfl, zaj (zal (s := 1) rfl Try.underlying26 (by kernel_rfl) rfl rfl (zak hv) (by omega) (by omega)) rfl⟩
       · exact .inl ⟨rfl, zaj (zam (u := .int .i64 (ys.getD j 0)) rfl (by kernel_rfl) rfl (zak hv) (zbg (show _ < ys.length by omega))) rfl⟩
       · exact .inl ⟨rfl, zdg (zcq rfl rfl rfl rfl) hb10⟩
       · exact .inl ⟨rfl, zaj (zap rfl) rfl⟩
       exact .inl ⟨rfl, zaj (zap rfl) rfl⟩
      refine zac [65, 31, 28, 17, 8, 7, 6, 5, 4, 1, 0] rfl ?_
      simp only [List.drop_succ_cons, List.drop_zero]
      refine zad 1 rfl (zac [44, 31, 28, 17, 8, 7, 6, 5, 4, 1, 0] rfl (zae ?_))
      exact zef false ⟨fun _ => by first | omega | contradiction, fun _ => by first | omega | contradiction⟩ (zan [44, 31, 28, 17, 8, 7, 6, 5, 4, 1, 0] rfl) ((.cons_cons _ .slnil))
     have hb9p : ¬ ((i : Int) < (xs.length : Int)) := of_decide_eq_false hb9
     refine zca 21 [[], [], [1], [0, 2], [3], [4], [4], [4, 6], [4, 5, 7], [4, 8], [9], [9], [9], [9], [9], [9], [9], [9], [9], [4, 9, 18], [4, 19]] [45, 46, 47, 48, 49, 50, 51, 52, 53, 54, 55, 56, 57, 58, 59, 60, 61, 62, 63, 64, 65] [.int .i64 (j : Int), v, .int .i64 (ys.length : Int), .bool false, .bool false, .int .i64 (i : Int), u, .int .i64 (xs.length : Int), .bool false, .bool false, undef, undef, undef, undef, undef, undef, undef, undef, undef, .bool false, .bool false] (by kernel_rfl) rfl ?_ ?_
     ·
      refine ⟨?_, ?_, ?_, ?_, ?_, ?_, ?_, ?_, ?_, ?_, ?_, ?_, ?_, ?_, ?_, ?_, ?_, ?_, ?_, ?_, ?_, trivial⟩
      · exact .inl ⟨rfl, zaj (zap rfl) rfl⟩
      · exact .inl ⟨rfl, zaj (zap rfl) rfl⟩
      · exact .inl ⟨rfl, zaj (zbo rfl Try.underlying26 rfl (zak hv)) rfl⟩
      · exact .inl ⟨rfl, zdg (zcq rfl rfl rfl rfl) hb8⟩
      · exact .inl ⟨rfl, zaj (zap rfl) rfl⟩
      · exact .inl ⟨rfl, zaj (zap rfl) rfl⟩
      · exact .inl ⟨rfl, zaj (zap rfl) rfl⟩
      · exact .inl ⟨rfl, zaj (zbo rfl Try.underlying26 rfl (zak hu)) rfl⟩
      · exact .inl ⟨rfl, zdg (zcq rfl rfl rfl rfl) hb9⟩
      · exact .inl ⟨rfl, zaj (zap rfl) rfl⟩
      · exact .inr ⟨rfl, rfl⟩
      · exact .inr ⟨rfl, rfl⟩
      · exact .inr ⟨rfl, rfl⟩
      · exact .inr ⟨rfl, rfl⟩
      · exact .inr ⟨rfl, rfl⟩
      · exact .inr ⟨rfl, rfl⟩
      · exact .inr ⟨rfl, rfl⟩
      · exact .inr ⟨rfl, rfl⟩
      · exact .inr ⟨rfl, rfl⟩
      · exact .inl ⟨rfl, zaj (zap rfl) rfl⟩
      exact .inl ⟨rfl, zaj (zap rfl) rfl⟩
     refine zac [65, 31, 28, 17, 8, 7, 6, 5, 4, 1, 0] rfl ?_
     simp only [List.drop_succ_cons, List.drop_zero]
     refine zad 1 rfl (zac [44, 31, 28, 17, 8, 7, 6, 5, 4, 1, 0] rfl (zae ?_))
     exact zef false ⟨fun _ => by first | omega | contradiction, fun _ => by first | omega | contradiction⟩ (zan [44, 31, 28, 17, 8, 7, 6, 5, 4, 1, 0] rfl) ((.cons_cons _ .slnil))
    intro b4 hm11
    obtain ⟨hm4, hm5⟩ := hm11
    refine hc_cond rfl (fun h12 => ?_) (fun h12 => ?_)
    ·
     refine zaf (zab (zad 3 rfl ?_))
     have hlt4 := hm4 (by assumption)
     refine hl_v rfl rfl rfl (zal (s := 1) rfl Try.underlying26 (by kernel_rfl) rfl rfl (zak hu) (by omega) (by omega)) (hl_v rfl rfl rfl (zam (u := .int .i64 (xs.getD i 0)) rfl (by kernel_rfl) rfl (zak hu) (zbg (show _ < xs.length by omega))) ?_)
     refine zbr rfl rfl rfl (zbe (z := .int .i64 0) (s := 1) (cs := ([xs.getD i 0].map (Value.int .i64))) rfl Try.underlying26 (by kernel_rfl) (by decide) rfl (by kernel_rfl) rfl) ?_
     intro g13
     refine zco (i := 1) (z := .int .i64 0) (bytes := 8) rfl rfl rfl rfl Try.underlying26 (by kernel_rfl) (by kernel_rfl) rfl rfl rfl (zas 0 rfl) (zcd _) (by first | omega | (simp; done) | (simp; omega)) (zcb os ([xs.getD i 0])) (zcv os ([xs.getD i 0])) (fun _ => rfl) ?_
     intro v14
     refine zad 1 rfl (zac [44, 31, 28, 17, 8, 7, 6, 5, 4, 1, 0] rfl (zae (zaa (zab (zad 1 rfl ?_)))))
     refine hl_v rfl rfl rfl (zbj rfl rfl rfl (by constructor <;> omega)) (zad 1 rfl (zac [44, 31, 28, 17, 8, 7, 6, 5, 4, 1, 0] rfl (zae (zai (zai ?_)))))
     exact zbx (i + 1) j v14 (os ++ ([xs.getD i 0])) ⟨by omega, by omega, by rw [List.length_append, List.length_singleton]; omega⟩ (by omega) (zan [17, 8, 7, 6, 5, 4, 1, 0] rfl) ((.cons _ (.cons_cons _ .slnil)))
    refine hc_meet1 (α := Bool) (fun b7 => [rowE 3 1 gu os.length (os.map (Value.int .i64))]) (fun b7 => [(0, u), (1, v), (4, .slice none 0 0), (5, .bool false), (6, gu), (7, .int .i64 (i : Int)), (8, .int .i64 (j : Int)), (17, .bool false), (28, .bool true), (31, .bool false), (44, .bool b4), (75, .bool b7)]) (fun b7 => (b7 = false → i < xs.length)) ?_ ?_
    ·
     have hlt5 := hm5 (by assumption)
     rcases Bool.eq_false_or_eq_true ((i : Int) == (xs.length : Int)) with hb15 | hb15
     ·
      have hb15p : (i : Int) = (xs.length : Int) := beq_iff_eq.1 hb15
      have hlt5 := hm5 (by assumption)
      refine zca 15 [[], [], [1], [0, 2], [3], [4], [4], [4], [4], [4], [4], [4], [4], [4], [4, 13]] [76, 77, 78, 79, 80, 81, 82, 83, 84, 85, 86, 87, 88, 89, 90] [.int .i64 (i : Int), u, .int .i64 (xs.length : Int), .bool true, .bool true, undef, undef, undef, undef, undef, undef, undef, undef, undef, .bool true] (by kernel_rfl) rfl ?_ ?_
      ·
       refine ⟨?_, ?_, ?_, ?_, ?_, ?_, ?_, ?_, ?_, ?_, ?_, ?_, ?_, ?_, ?_, trivial⟩
       · exact .inl ⟨rfl, zaj (zap rfl) rfl⟩
       · exact .inl ⟨rfl, zaj (zap rfl) rfl⟩
       · exact .inl ⟨rfl, zaj (zbo rfl Try.underlying26 rfl (zak hu)) rfl⟩
       · exact .inl ⟨rfl, zdg (zcq rfl rfl rfl rfl) hb15⟩
       · exact .inl ⟨rfl, zaj (zap rfl) rfl⟩
       · exact .inr ⟨rfl, rfl⟩
       · exact .inr ⟨rfl, rfl⟩
       · exact .inr ⟨rfl, rfl⟩
       · exact .inr ⟨rfl, rfl⟩
       · exact .inr ⟨rfl, rfl⟩
       · exact .inr ⟨rfl, rfl⟩
       · exact .inr ⟨rfl, rfl⟩
       · exact .inr ⟨rfl, rfl⟩
       · exact .inr ⟨rfl, rfl⟩
       exact .inl ⟨rfl, zaj (zap rfl) rfl⟩
      refine zac [90, 44, 31, 28, 17, 8, 7, 6, 5, 4, 1, 0] rfl ?_
      simp only [List.drop_succ_cons, List.drop_zero]
      refine zad 1 rfl (zac [75, 44, 31, 28, 17, 8, 7, 6, 5, 4, 1, 0] rfl (zae ?_))
      exact zef true (fun _ => by first | omega | contradiction) (zan [75, 44, 31, 28, 17, 8, 7, 6, 5, 4, 1, 0] rfl) ((.cons_cons _ .slnil))
     have hb15p : (i : Int) ≠ (xs.length : Int) := beq_eq_false_iff_ne.1 hb15
     have hlt5 := hm5 (by assumption)
     rcases Bool.eq_false_or_eq_true (decide (ys.getD j 0 < xs.getD i 0)) with hb16 | hb16
     ·
      have hb16p : ys.getD j 0 < xs.getD i 0 := of_decide_eq_true hb16
      have hlt5 := hm5 (by assumption)
      refine zca 15 [[], [], [1], [0, 2], [3], [4], [4], [4, 5, 6], [4, 7], [4], [4], [4, 9, 10], [4, 11], [4, 8, 12], [4, 13]] [76, 77, 78, 79, 80, 81, 82, 83, 84, 85, 86, 87, 88, 89, 90] [.int .i64 (i : Int), u, .int .i64 (xs.length : Int), .bool false, .bool false, v, .int .i64 (j : Int), elP v (((j : Int)).toNat * 1), .int .i64 (ys.getD j 0), u, .int .i64 (i : Int), elP u (((i : Int)).toNat * 1), .int .i64 (xs.getD i 0), .bool true, .bool true] (by kernel_rfl) rfl ?_ ?_
      ·
       refine ⟨?_, ?_, ?_, ?_, ?_, ?_, ?_, ?_, ?_, ?_, ?_, ?_, ?_, ?_, ?_, trivial⟩
       · exact .inl ⟨rfl, zaj (zap rfl) rfl⟩
       · exact .inl ⟨rfl, zaj (zap rfl) rfl⟩
       · exact .inl ⟨rfl, zaj (zbo rfl Try.underlying26 rfl (zak hu)) rfl⟩
       · exact .inl ⟨rfl, zdg (zcq rfl rfl rfl rfl) hb15⟩
       · exact .inl ⟨rfl, zaj (zap rfl) rfl⟩
       · exact .inl ⟨rfl, zaj (zap rfl) rfl⟩
       · exact .inl ⟨rfl, zaj (zap rfl) rfl⟩
       · exact .inl ⟨rfl, zaj (zal (s := 1) rfl Try.underlying26 (by kernel_rfl) rfl rfl (zak hv) (by omega) (by omega)) rfl⟩
       · exact .inl ⟨rfl, zaj (zam (u := .int .i64 (ys.getD j 0)) rfl (by kernel_rfl) rfl (zak hv) (zbg (show _ < ys.length by omega))) rfl⟩
       · exact .inl ⟨rfl, zaj (zap rfl) rfl⟩
       · exact .inl ⟨rfl, zaj (zap rfl) rfl⟩
       · exact .inl ⟨rfl, zaj (zal (s := 1) rfl Try.underlying26 (by kernel_rfl) rfl rfl (zak hu) (by omega) (by omega)) rfl⟩
       · exact .inl ⟨rfl, zaj (zam (u := .int .i64 (xs.getD i 0)) rfl (by kernel_rfl) rfl (zak hu) (zbg (show _ < xs.length by omega))) rfl⟩
       · exact .inl ⟨rfl, zdg (zcq rfl rfl rfl rfl) hb16⟩
       exact .inl ⟨rfl, zaj (zap rfl) rfl⟩
      refine zac [90, 44, 31, 28, 17, 8, 7, 6, 5, 4, 1, 0] rfl ?_
      simp only [List.drop_succ_cons, List.drop_zero]
      refine zad 1 rfl (zac [75, 44, 31, 28, 17, 8, 7, 6, 5, 4, 1, 0] rfl (zae ?_))
      exact zef true (fun _ => by first | omega | contradiction) (zan [75, 44, 31, 28, 17, 8, 7, 6, 5, 4, 1, 0] rfl) ((.cons_cons _ .slnil))
     have hb16p : ¬ (ys.getD j 0 < xs.getD i 0) := of_decide_eq_false hb16
     have hlt5 := hm5 (by assumption)
     refine zca 15 [[], [], [1], [0, 2], [3], [4], [4], [4, 5, 6], [4, 7], [4], [4], [4, 9, 10], [4, 11], [4, 8, 12], [4, 13]] [76, 77, 78, 79, 80, 81, 82, 83, 84, 85, 86, 87, 88, 89, 90] [.int .i64 (i : Int), u, .int .i64 (xs.length : Int), .bool false, .bool false, v, .int .i64 (j : Int), elP v (((j : Int)).toNat * 1), .int .i64 (ys.getD j 0), u, .int .i64 (i : Int), elP u (((i : Int)).toNat * 1), .int .i64 (xs.getD i 0), .bool false, .bool false] (by kernel_rfl) rfl ?_ ?_
     ·
      refine ⟨?_, ?_, ?_, ?_, ?_, ?_, ?_, ?_, ?_, ?_, ?_, ?_, ?_, ?_, ?_, trivial⟩
      · exact .inl ⟨rfl, zaj (zap rfl) rfl⟩
      · exact .inl ⟨rfl, zaj (zap rfl) rfl⟩
      · exact .inl ⟨rfl, zaj (zbo rfl Try.underlying26 rfl (zak hu)) rfl⟩
      · exact .inl ⟨rfl, zdg (zcq rfl rfl rfl rfl) hb15⟩
      · exact .inl ⟨rfl, zaj (zap rfl) rfl⟩
      · exact .inl ⟨rfl, zaj (zap rfl) rfl⟩
      · exact .inl ⟨rfl, zaj (zap rfl) rfl⟩
      · exact .inl ⟨rfl, zaj (zal (s := 1) rfl Try.underlying26 (by kernel_rfl) rfl rfl (zak hv) (by omega) (by omega)) rfl⟩
      · exact .inl ⟨rfl, zaj (zam (u := .int .i64 (ys.getD j 0)) rfl (by kernel_rfl) rfl (zak hv) (zbg (show _ < ys.length by omega))) rfl⟩
      · exact .inl ⟨rfl, zaj (zap rfl) rfl⟩
      · exact .inl ⟨rfl, zaj (zap rfl) rfl⟩
      · exact .inl ⟨rfl, zaj (zal (s := 1) rfl Try.underlying26 (by kernel_rfl) rfl rfl (zak hu) (by omega) (by omega)) rfl⟩
      · exact .inl ⟨rfl, zaj (zam (u := .int .i64 (xs.getD i 0)) rfl (by kernel_rfl) rfl (zak hu) (zbg (show _ < xs.length by omega))) rfl⟩
      · exact .inl ⟨rfl, zdg (zcq rfl rfl rfl rfl) hb16⟩
      exact .inl ⟨rfl, zaj (zap rfl) rfl⟩
     refine zac [90, 44, 31, 28, 17, 8, 7, 6, 5, 4, 1, 0] rfl ?_
     simp only [List.drop_succ_cons, List.drop_zero]
     refine zad 1 rfl (zac [75, 44, 31, 28, 17, 8, 7, 6, 5, 4, 1, 0] rfl (zae ?_))
     exact zef false (fun _ => by first | omega | contradiction) (zan [75, 44, 31, 28, 17, 8, 7, 6, 5, 4, 1, 0] rfl) ((.cons_cons _ .slnil))
    intro b7 hm17
    have hm7 := hm17
    refine hc_cond rfl (fun h18 => ?_) (fun h18 => ?_)
    ·
     refine zaf (zab (zad 3 rfl ?_))
     have hlt6 := hm5 (by assumption)
     refine hl_v rfl rfl rfl (zal (s := 1) rfl Try.underlying26 (by kernel_rfl) rfl rfl (zak hv) (by omega) (by omega)) (hl_v rfl rfl rfl (zam (u := .int .i64 (ys.getD j 0)) rfl (by kernel_rfl) rfl (zak hv) (zbg (show _ < ys.length by omega))) ?_)
     refine zbr rfl rfl rfl (zbe (z := .int .i64 0) (s := 1) (cs := ([ys.getD j 0].map (Value.int .i64))) rfl Try.underlying26 (by kernel_rfl) (by decide) rfl (by kernel_rfl) rfl) ?_
     intro g19
     refine zco (i := 1) (z := .int .i64 0) (bytes := 8) rfl rfl rfl rfl Try.underlying26 (by kernel_rfl) (by kernel_rfl) rfl rfl rfl (zas 0 rfl) (zcd _) (by first | omega | (simp; done) | (simp; omega)) (zcb os ([ys.getD j 0])) (zcv os ([ys.getD j 0])) (fun _ => rfl) ?_
     intro v20
     refine zad 1 rfl (zac [75, 44, 31, 28, 17, 8, 7, 6, 5, 4, 1, 0] rfl (zae (zaa (zab (zad 1 rfl ?_)))))
     refine hl_v rfl rfl rfl (zbj rfl rfl rfl (by constructor <;> omega)) (zad 1 rfl (zac [75, 44, 31, 28, 17, 8, 7, 6, 5, 4, 1, 0] rfl (zae (zai (zai ?_)))))
     exact zbx i (j + 1) v20 (os ++ ([ys.getD j 0])) ⟨by omega, by omega, by rw [List.length_append, List.length_singleton]; omega⟩ (by omega) (zan [17, 8, 7, 6, 5, 4, 1, 0] rfl) ((.cons _ (.cons_cons _ .slnil)))
    refine zaf (zab (zad 3 rfl ?_))
    have hlt6 := hm5 (by assumption)
    have hlt7 := hm7 (by assumption)
    refine hl_v rfl rfl rfl (zal (s := 1) rfl Try.underlying26 (by kernel_rfl) rfl rfl (zak hu) (by omega) (by omega)) (hl_v rfl rfl rfl (zam (u := .int .i64 (xs.getD i 0)) rfl (by kernel_rfl) rfl (zak hu) (zbg (show _ < xs.length by omega))) ?_)
    refine zbr rfl rfl rfl (zbe (z := .int .i64 0) (s := 1) (cs := ([xs.getD i 0].map (Value.int .i64))) rfl Try.underlying26 (by kernel_rfl) (by decide) rfl (by kernel_rfl) rfl) ?_
    intro g21
    refine zco (i := 1) (z := .int .i64 0) (bytes := 8) rfl rfl rfl rfl Try.underlying26 (by kernel_rfl) (by kernel_rfl) rfl rfl rfl (zas 0 rfl) (zcd _) (by first | omega | (simp; done) | (simp; omega)) (zcb os ([xs.getD i 0])) (zcv os ([xs.getD i 0])) (fun _ => rfl) ?_
    intro v22
    refine zad 1 rfl (zac [75, 44, 31, 28, 17, 8, 7, 6, 5, 4, 1, 0] rfl (zae (zaa (zaf (zab ?_)))))
    refine zad 1 rfl (hl_v rfl rfl rfl (zbj rfl rfl rfl (by constructor <;> omega)) (zad 1 rfl (zac [75, 44, 31, 28, 17, 8, 7, 6, 5, 4, 1, 0] rfl (zae (zaa ?_)))))
    refine zab (zad 1 rfl (hl_v rfl rfl rfl (zbj rfl rfl rfl (by constructor <;> omega)) (zad 1 rfl (zac [75, 44, 31, 28, 17, 8, 7, 6, 5, 4, 1, 0] rfl (zae ?_)))))
    refine zai (zai ?_)
    exact zbx (i + 1) (j + 1) v22 (os ++ ([xs.getD i 0])) ⟨by omega, by omega, by rw [List.length_append, List.length_singleton]; omega⟩ (by omega) (zan [17, 8, 7, 6, 5, 4, 1, 0] rfl) ((.cons _ (.cons_cons _ .slnil)))
   refine zad 3 rfl (hl_v rfl rfl rfl (zbo rfl Try.underlying26 rfl (zak hv)) ?_)
   refine zbw rfl rfl rfl rfl rfl rfl (fun h23 => ?_) (fun h23 => ?_)
   ·
    refine zad 1 rfl (zac [28, 17, 8, 7, 6, 5, 4, 1, 0] rfl (zae (zaa (zbb rfl (zaz ?_)))))
    refine zaa (zax (zaf (zaf (zab (zad 1 rfl ?_)))))
    refine hl_v rfl rfl rfl (zbo rfl Try.underlying26 rfl (zas 0 rfl)) ?_
    refine zdi rfl rfl rfl rfl rfl rfl (fun h24 => ?_) (fun h24 => ?_)
    ·
     refine zac [31, 28, 17, 8, 7, 6, 5, 4, 1, 0] rfl (zae (zaa (zbb rfl (zaf (zab ?_)))))
     refine zbr rfl rfl rfl (zcr (s := 1) rfl Try.underlying26 (by kernel_rfl)) ?_
     intro g25
     refine zad 2 rfl (zac [31, 28, 17, 8, 7, 6, 5, 4, 1, 0] rfl (zae (zaa ?_)))
     refine zbl ?_
     refine zao ?_
     refine zbf ?_
     refine zao ?_
     refine zbf ?_
     refine zao ?_
     exact zde (rs := [.tmp 4, .tmp 5]) (vs := [.slice (some ⟨g25, 0, none⟩) 0 0, .bool false]) (post := [rowE 3 1 (.slice (some ⟨g25, 0, none⟩) 0 0) 0 ([])]) rfl ⟨rfl, rfl, trivial⟩ rfl ((.cons_cons _ (.cons _ .slnil))) ⟨_, [], false, rfl, rfl, by simp⟩
    refine zac [31, 28, 17, 8, 7, 6, 5, 4, 1, 0] rfl (zae (zaa (zaq rfl (zaz (zaa ?_)))))
    refine zax ?_
    refine hc_meet1 (α := Bool) (fun b4 => [rowE 3 1 gu os.length (os.map (Value.int .i64))]) (fun b4 => [(0, u), (1, v), (4, .slice none 0 0), (5, .bool false), (6, gu), (7, .int .i64 (i : Int)), (8, .int .i64 (j : Int)), (17, .bool false), (28, .bool true), (31, .bool false), (44, .bool b4)]) (fun b4 => (b4 = true → i < xs.length) ∧ (b4 = false → j < ys.length)) ?_ ?_
    ·
     rcases Bool.eq_false_or_eq_true ((j : Int) == (ys.length : Int)) with hb26 | hb26
     ·
      have hb26p : (j : Int) = (ys.length : Int) := beq_iff_eq.1 hb26
      refine zca 21 [[], [], [1], [0, 2], [3], [4], [4], [4], [4], [4], [9], [9], [9], [9], [9], [9], [9], [9], [9], [4], [4, 19]] [45, 46, 47, 48, 49, 50, 51, 52, 53, 54, 55, 56, 57, 58, 59, 60, 61, 62, 63, 64, 65] [.int .i64 (j : Int), v, .int .i64 (ys.length : Int), .bool true, .bool true, undef, undef, undef, undef, undef, undef, undef, undef, undef, undef, undef, undef, undef, undef, undef, .bool true] (by kernel_rfl) rfl ?_ ?_
      ·
       refine ⟨?_, ?_, ?_, ?_, ?_, ?_, ?_, ?_, ?_, ?_, ?_, ?_, ?_, ?_, ?_, ?_, ?_, ?_, ?_, ?_, ?_, trivial⟩
       · exact .inl ⟨rfl, zaj (zap rfl) rfl⟩
       · exact .inl ⟨rfl, zaj (zap rfl) rfl⟩
       · exact .inl ⟨rfl, zaj (zbo rfl Try.underlying26 rfl (zak hv)) rfl⟩
       · exact .inl ⟨rfl, zdg (zcq rfl rfl rfl rfl) hb26⟩
       · exact .inl ⟨rfl, zaj (zap rfl) rfl⟩
       · exact .inr ⟨rfl, rfl⟩
       · exact .inr ⟨rfl, rfl⟩
       · exact .inr ⟨rfl, rfl⟩
       · exact .inr ⟨rfl, rfl⟩
       · exact .inr ⟨rfl, rfl⟩
       · exact .inr ⟨rfl, rfl⟩
       · exact .inr ⟨rfl, rfl⟩
       · exact .inr ⟨rfl, rfl⟩
       · exact .inr ⟨rfl, rfl⟩
       · exact .inr ⟨rfl, rfl⟩
       · exact .inr ⟨rfl, rfl⟩
       · exact .inr ⟨rfl, rfl⟩
       · exact .inr ⟨rfl, rfl⟩
       · exact .inr ⟨rfl, rfl⟩
       · exact .inr ⟨rfl, rfl⟩
       exact .inl ⟨rfl, zaj (zap rfl) rfl⟩
      refine zac [65, 31, 28, 17, 8, 7, 6, 5, 4, 1, 0] rfl ?_
      simp only [List.drop_succ_cons, List.drop_zero]
      refine zad 1 rfl (zac [44, 31, 28, 17, 8, 7, 6, 5, 4, 1, 0] rfl (zae ?_))
      exact zef true ⟨fun _ => by first | omega | contradiction, fun _ => by first | omega | contradiction⟩ (zan [44, 31, 28, 17, 8, 7, 6, 5, 4, 1, 0] rfl) ((.cons_cons _ .slnil))
     have hb26p : (j : Int) ≠ (ys.length : Int) := beq_eq_false_iff_ne.1 hb26
     rcases Bool.eq_false_or_eq_true (decide ((i : Int) < (xs.length : Int))) with hb27 | hb27
     ·
      have hb27p : (i : Int) < (xs.length : Int) := of_decide_eq_true hb27
      rcases Bool.eq_false_or_eq_true (decide (xs.getD i 0 < ys.getD j 0)) with hb28 | hb28
      ·
       have hb28p : xs.getD i 0 < ys.getD j 0 := of_decide_eq_true hb28
       refine zca 21 [[], [], [1], [0, 2], [3], [4], [4], [4, 6], [4, 5, 7], [4, 8], [9], [9], [9, 10, 11], [9, 12], [9], [9], [9, 14, 15], [9, 16], [9, 13, 17], [4, 9, 18], [4, 19]] [45, 46, 47, 48, 49, 50, 51, 52, 53, 54, 55, 56, 57, 58, 59, 60, 61, 62, 63, 64, 65] [.int .i64 (j : Int), v, .int .i64 (ys.length : Int), .bool false, .bool false, .int .i64 (i : Int), u, .int .i64 (xs.length : Int), .bool true, .bool true, u, .int .i64 (i : Int), elP u (((i : Int)).toNat * 1), .int .i64 (xs.getD i 0), v, .int .i64 (j : Int), elP v (((j : Int)).toNat * 1), .int .i64 (ys.getD j 0), .bool true, .bool true, .bool true] (by kernel_rfl) rfl ?_ ?_
       ·
        refine ⟨?_, ?_, ?_, ?_, ?_, ?_, ?_, ?_, ?_, ?_, ?_, ?_, ?_, ?_, ?_, ?_, ?_, ?_, ?_, ?_, ?_, trivial⟩
        · exact .inl ⟨rfl, zaj (zap rfl) rfl⟩
        · exact .inl ⟨rfl, zaj (zap rfl) rfl⟩
        · exact .inl ⟨rfl, zaj (zbo rfl Try.underlying26 rfl (zak hv)) rfl⟩
        · exact .inl ⟨rfl, zdg (zcq rfl rfl rfl rfl) hb26⟩
        · exact .inl ⟨rfl, zaj (zap rfl) rfl⟩
        · exact .inl ⟨rfl, zaj (zap rfl) rfl⟩
        · exact .inl ⟨rfl, zaj (zap rfl) rfl⟩
        · exact .inl ⟨rfl, zaj (zbo rfl Try.underlying26 rfl (zak hu)) rfl⟩
        · exact .inl ⟨rfl, zdg (zcq rfl rfl rfl rfl) hb27⟩
        · exact .inl ⟨rfl, zaj (zap rfl) rfl⟩
        · exact .inl ⟨rfl, zaj (zap rfl) rfl⟩
        · exact .inl ⟨rfl, zaj (zap rfl) rfl⟩
        · exact .inl ⟨rfl, zaj (zal (s := 1) rfl Try.underlying26 (by kernel_rfl) rfl rfl (zak hu) (by omega) (by omega)) rfl⟩
        · exact .inl ⟨rfl, zaj (zam (u := .int .i64 (xs.getD i 0)) rfl (by kernel_rfl) rfl (zak hu) (zbg (show _ < xs.length by omega))) rfl⟩
        · exact .inl ⟨rfl, zaj (zap rfl) rfl⟩
        · exact .inl ⟨rfl, zaj (zap rfl) rfl⟩
        · exact .inl ⟨rfl, zaj (zal (s := 1) rfl Try.underlying26 (by kernel_rfl) rfl rfl (zak hv) (by omega) (by omega)) rfl⟩
        · exact .inl ⟨rfl, zaj (zam (u := .int .i64 (ys.getD j 0)) rfl (by kernel_rfl) rfl (zak hv) (zbg (show _ < ys.length by omega))) rfl⟩
        · exact .inl ⟨rfl, zdg (zcq rfl rfl rfl rfl) hb28⟩
        · exact .inl ⟨rfl, zaj (zap rfl) rfl⟩
        exact .inl ⟨rfl, zaj (zap rfl) rfl⟩
       refine zac [65, 31, 28, 17, 8, 7, 6, 5, 4, 1, 0] rfl ?_
       simp only [List.drop_succ_cons, List.drop_zero]
       refine zad 1 rfl (zac [44, 31, 28, 17, 8, 7, 6, 5, 4, 1, 0] rfl (zae ?_))
       exact zef true ⟨fun _ => by first | omega | contradiction, fun _ => by first | omega | contradiction⟩ (zan [44, 31, 28, 17, 8, 7, 6, 5, 4, 1, 0] rfl) ((.cons_cons _ .slnil))
      have hb28p : ¬ (xs.getD i 0 < ys.getD j 0) := of_decide_eq_false hb28
      refine zca 21 [[], [], [1], [0, 2], [3], [4], [4], [4, 6], [4, 5, 7], [4, 8], [9], [9], [9, 10, 11], [9, 12], [9], [9], [9, 14, 15], [9, 16], [9, 13, 17], [4, 9, 18], [4, 19]] [45, 46, 47, 48, 49, 50, 51, 52, 53, 54, 55, 56, 57, 58, 59, 60, 61, 62, 63, 64, 65] [.int .i64 (j : Int), v, .int .i64 (ys.length : Int), .bool false, .bool false, .int .i64 (i : Int), u, .int .i64 (xs.length : Int), .bool true, .bool true, u, .int .i64 (i : Int), elP u (((i : Int)).toNat * 1), .int .i64 (xs.getD i 0), v, .int .i64 (j : Int), elP v (((j : Int)).toNat * 1), .int .i64 (ys.getD j 0), .bool false, .bool false, .bool false] (by kernel_rfl) rfl ?_ ?_
      ·
       refine ⟨?_, ?_, ?_, ?_, ?_, ?_, ?_, ?_, ?_, ?_, ?_, ?_, ?_, ?_, ?_, ?_, ?_, ?_, ?_, ?_, ?_, trivial⟩
       · exact .inl ⟨rfl, zaj (zap rfl) rfl⟩
       · exact .inl ⟨rfl, zaj (zap rfl) rfl⟩
       · exact .inl ⟨rfl, zaj (zbo rfl Try.underlying26 rfl (zak hv)) rfl⟩
       · exact .inl ⟨rfl, zdg (zcq rfl rfl rfl rfl) hb26⟩
       · exact .inl ⟨rfl, zaj (zap rfl) rfl⟩
       · exact .inl ⟨rfl, zaj (zap rfl) rfl⟩
       · exact .inl ⟨rfl, zaj (zap rfl) rfl⟩
       · exact .inl ⟨rfl, zaj (zbo rfl Try.underlying26 rfl (zak hu)) rfl⟩
       · exact .inl ⟨rfl, zdg (zcq rfl rfl rfl rfl) hb27⟩
       · exact .inl ⟨rfl, zaj (zap rfl) rfl⟩
       · exact .inl ⟨rfl, zaj (zap rfl) rfl⟩
       · exact .inl ⟨rfl, zaj (zap rfl) rfl⟩
       · exact .inl ⟨rfl, zaj (zal (s := 1) rfl Try.underlying26 (by kernel_rfl) rfl rfl (zak hu) (by omega) (by omega)) rfl⟩
       · exact .inl ⟨rfl, zaj (zam (u := .int .i64 (xs.getD i 0)) rfl (by kernel_rfl) rfl (zak hu) (zbg (show _ < xs.length by omega))) rfl⟩
       · exact .inl ⟨rfl, zaj (zap rfl) rfl⟩
       · exact .inl ⟨rfl, zaj (zap rfl) rfl⟩
       · exact .inl ⟨rfl, zaj (zal (s := 1) rfl Try.underlying26 (by kernel_rfl) rfl rfl (zak hv) (by omega) (by omega)) rfl⟩
       · exact .inl ⟨rfl, zaj (zam (u := .int .i64 (ys.getD j 0)) rfl (by kernel_rfl) rfl (zak hv) (zbg (show _ < ys.length by omega))) rfl⟩
       · exact .inl ⟨rfl, zdg (zcq rfl rfl rfl rfl) hb28⟩
       · exact .inl ⟨rfl, zaj (zap rfl) rfl⟩
       exact .inl ⟨rfl, zaj (zap rfl) rfl⟩
      refine zac [65, 31, 28, 17, 8, 7, 6, 5, 4, 1, 0] rfl ?_
      simp only [List.drop_succ_cons, List.drop_zero]
      refine zad 1 rfl (zac [44, 31, 28, 17, 8, 7, 6, 5, 4, 1, 0] rfl (zae ?_))
      exact zef false ⟨fun _ => by first | omega | contradiction, fun _ => by first | omega | contradiction⟩ (zan [44, 31, 28, 17, 8, 7, 6, 5, 4, 1, 0] rfl) ((.cons_cons _ .slnil))
     have hb27p : ¬ ((i : Int) < (xs.length : Int)) := of_decide_eq_false hb27
     refine zca 21 [[], [], [1], [0, 2], [3], [4], [4], [4, 6], [4, 5, 7], [4, 8], [9], [9], [9], [9], [9], [9], [9], [9], [9], [4, 9, 18], [4, 19]] [45, 46, 47, 48, 49, 50, 51, 52, 53, 54, 55, 56, 57, 58, 59, 60, 61, 62, 63, 64, 65] [.int .i64 (j : Int), v, .int .i64 (ys.length : Int), .bool false, .bool false, .int .i64 (i : Int), u, .int .i64 (xs.length : Int), .bool false, .bool false, undef, undef, undef, undef, undef, undef, undef, undef, undef, .bool false, .bool false] (by kernel_rfl) rfl ?_ ?_
     ·
      refine ⟨?_, ?_, ?_, ?_, ?_, ?_, ?_, ?_, ?_, ?_, ?_, ?_, ?_, ?_, ?_, ?_, ?_, ?_, ?_, ?_, ?_, trivial⟩
      · exact .inl ⟨rfl, zaj (zap rfl) rfl⟩
      · exact .inl ⟨rfl, zaj (zap rfl) rfl⟩
      · exact .inl ⟨rfl, zaj (zbo rfl Try.underlying26 rfl (zak hv)) rfl⟩
      · exact .inl ⟨rfl, zdg (zcq rfl rfl rfl rfl) hb26⟩
      · exact .inl ⟨rfl, zaj (zap rfl) rfl⟩
      · exact .inl ⟨rfl, zaj (zap rfl) rfl⟩
      · exact .inl ⟨rfl, zaj (zap rfl) rfl⟩
      · exact .inl ⟨rfl, zaj (zbo rfl Try.underlying26 rfl (zak hu)) rfl⟩
      · exact .inl ⟨rfl, zdg (zcq rfl rfl rfl rfl) hb27⟩
      · exact .inl ⟨rfl, zaj (zap rfl) rfl⟩
      · exact .inr ⟨rfl, rfl⟩
      · exact .inr ⟨rfl, rfl⟩
      · exact .inr ⟨rfl, rfl⟩
      · exact .inr ⟨rfl, rfl⟩
      · exact .inr ⟨rfl, rfl⟩
      · exact .inr ⟨rfl, rfl⟩
      · exact .inr ⟨rfl, rfl⟩
      · exact .inr ⟨rfl, rfl⟩
      · exact .inr ⟨rfl, rfl⟩
      · exact .inl ⟨rfl, zaj (zap rfl) rfl⟩
      exact .inl ⟨rfl, zaj (zap rfl) rfl⟩
     refine zac [65, 31, 28, 17, 8, 7, 6, 5, 4, 1, 0] rfl ?_
     simp only [List.drop_succ_cons, List.drop_zero]
     refine zad 1 rfl (zac [44, 31, 28, 17, 8, 7, 6, 5, 4, 1, 0] rfl (zae ?_))
     exact zef false ⟨fun _ => by first | omega | contradiction, fun _ => by first | omega | contradiction⟩ (zan [44, 31, 28, 17, 8, 7, 6, 5, 4, 1, 0] rfl) ((.cons_cons _ .slnil))
    intro b4 hm29
    obtain ⟨hm4, hm5⟩ := hm29
    refine hc_cond rfl (fun h30 => ?_) (fun h30 => ?_)
    ·
     refine zaf (zab (zad 3 rfl ?_))
     have hlt4 := hm4 (by assumption)
     refine hl_v rfl rfl rfl (zal (s := 1) rfl Try.underlying26 (by kernel_rfl) rfl rfl (zak hu) (by omega) (by omega)) (hl_v rfl rfl rfl (zam (u := .int .i64 (xs.getD i 0)) rfl (by kernel_rfl) rfl (zak hu) (zbg (show _ < xs.length by omega))) ?_)
     refine zbr rfl rfl rfl (zbe (z := .int .i64 0) (s := 1) (cs := ([xs.getD i 0].map (Value.int .i64))) rfl Try.underlying26 (by kernel_rfl) (by decide) rfl (by kernel_rfl) rfl) ?_
     intro g31
     refine zco (i := 1) (z := .int .i64 0) (bytes := 8) rfl rfl rfl rfl Try.underlying26 (by kernel_rfl) (by kernel_rfl) rfl rfl rfl (zas 0 rfl) (zcd _) (by first | omega | (simp; done) | (simp; omega)) (zcb os ([xs.getD i 0])) (zcv os ([xs.getD i 0])) (fun _ => rfl) ?_
     intro v32
     refine zad 1 rfl (zac [44, 31, 28, 17, 8, 7, 6, 5, 4, 1, 0] rfl (zae (zaa (zab (zad 1 rfl ?_)))))
     refine hl_v rfl rfl rfl (zbj rfl rfl rfl (by constructor <;> omega)) (zad 1 rfl (zac [44, 31, 28, 17, 8, 7, 6, 5, 4, 1, 0] rfl (zae (zai (zai ?_)))))
     exact zbx (i + 1) j v32 (os ++ ([xs.getD i 0])) ⟨by omega, by omega, by rw [List.length_append, List.length_singleton]; omega⟩ (by omega) (zan [17, 8, 7, 6, 5, 4, 1, 0] rfl) ((.cons _ (.cons_cons _ .slnil)))
    refine hc_meet1 (α := Bool) (fun b7 => [rowE 3 1 gu os.length (os.map (Value.int .i64))]) (fun b7 => [(0, u), (1, v), (4, .slice none 0 0), (5, .bool false), (6, gu), (7, .int .i64 (i : Int)), (8, .int .i64 (j : Int)), (17, .bool false), (28, .bool true), (31, .bool false), (44, .bool b4), (75, .bool b7)]) (fun b7 => (b7 = false → i < xs.length)) ?_ ?_
    ·
     have hlt5 := hm5 (by assumption)
     rcases Bool.eq_false_or_eq_true ((i : Int) == (xs.length : Int)) with hb33 | hb33
     ·
      have hb33p : (i : Int) = (xs.length : Int) := beq_iff_eq.1 hb33
      have hlt5 := hm5 (by assumption)
      refine zca 15 [[], [], [1], [0, 2], [3], [4], [4], [4], [4], [4], [4], [4], [4], [4], [4, 13]] [76, 77, 78, 79, 80, 81, 82, 83, 84, 85, 86, 87, 88, 89, 90] [.int .i64 (i : Int), u, .int .i64 (xs.length : Int), .bool true, .bool true, undef, undef, undef, undef, undef, undef, undef, undef, undef, .bool true] (by kernel_rfl) rfl ?_ ?_
      ·
       refine ⟨?_, ?_, ?_, ?_, ?_, ?_, ?_, ?_, ?_, ?_, ?_, ?_, ?_, ?_, ?_, trivial⟩
       · exact .inl ⟨rfl, zaj (zap rfl) rfl⟩
       · exact .inl ⟨rfl, zaj (zap rfl) rfl⟩
       · exact .inl ⟨rfl, zaj (zbo rfl Try.underlying26 rfl (zak hu)) rfl⟩
       · exact .inl ⟨rfl, zdg (zcq rfl rfl rfl rfl) hb33⟩
       · exact .inl ⟨rfl, zaj (zap rfl) rfl⟩
       · exact .inr ⟨rfl, rfl⟩
       · exact .inr ⟨rfl, rfl⟩
       · exact .inr ⟨rfl, rfl⟩
       · exact .inr ⟨rfl, rfl⟩
       · exact .inr ⟨rfl, rfl⟩
       · exact .inr ⟨rfl, rfl⟩
       · exact .inr ⟨rfl, rfl⟩
       · exact .inr ⟨rfl, rfl⟩
       · exact .inr ⟨rfl, rfl⟩
       exact .inl ⟨rfl, zaj (zap rfl) rfl⟩
      refine zac [90, 44, 31, 28, 17, 8, 7, 6, 5, 4, 1, 0] rfl ?_
      simp only [List.drop_succ_cons, List.drop_zero]
      refine zad 1 rfl (zac [75, 44, 31, 28, 17, 8, 7, 6, 5, 4, 1, 0] rfl (zae ?_))
      exact zef true (fun _ => by first | omega | contradiction) (zan [75, 44, 31, 28, 17, 8, 7, 6, 5, 4, 1, 0] rfl) ((.cons_cons _ .slnil))
     have hb33p : (i : Int) ≠ (xs.length : Int) := beq_eq_false_iff_ne.1 hb33
     have hlt5 := hm5 (by assumption)
     rcases Bool.eq_false_or_eq_true (decide (ys.getD j 0 < xs.getD i 0)) with hb34 | hb34
     ·
      have hb34p : ys.getD j 0 < xs.getD i 0 := of_decide_eq_true hb34
      have hlt5 := hm5 (by assumption)
      refine zca 15 [[], [], [1], [0, 2], [3], [4], [4], [4, 5, 6], [4, 7], [4], [4], [4, 9, 10], [4, 11], [4, 8, 12], [4, 13]] [76, 77, 78, 79, 80, 81, 82, 83, 84, 85, 86, 87, 88, 89, 90] [.int .i64 (i : Int), u, .int .i64 (xs.length : Int), .bool false, .bool false, v, .int .i64 (j : Int), elP v (((j : Int)).toNat * 1), .int .i64 (ys.getD j 0), u, .int .i64 (i : Int), elP u (((i : Int)).toNat * 1), .int .i64 (xs.getD i 0), .bool true, .bool true] (by kernel_rfl) rfl ?_ ?_
      ·
       refine ⟨?_, ?_, ?_, ?_, ?_, ?_, ?_, ?_, ?_, ?_, ?_, ?_, ?_, ?_, ?_, trivial⟩
       · exact .inl ⟨rfl, zaj (zap rfl) rfl⟩
       · exact .inl ⟨rfl, zaj (zap rfl) rfl⟩
       · exact .inl ⟨rfl, zaj (zbo rfl Try.underlying26 rfl (zak hu)) rfl⟩
       · exact .inl ⟨rfl, zdg (zcq rfl rfl rfl rfl) hb33⟩
       · exact .inl ⟨rfl, zaj (zap rfl) rfl⟩
       · exact .inl ⟨rfl, zaj (zap rfl) rfl⟩
       · exact .inl ⟨rfl, zaj (zap rfl) rfl⟩
       · exact .inl ⟨rfl, zaj (zal (s := 1) rfl Try.underlying26 (by kernel_rfl) rfl rfl (zak hv) (by omega) (by omega)) rfl⟩
       · exact .inl ⟨rfl, zaj (zam (u := .int .i64 (ys.getD j 0)) rfl (by kernel_rfl) rfl (zak hv) (zbg (show _ < ys.length by omega))) rfl⟩
       · exact .inl ⟨rfl, zaj (zap rfl) rfl⟩
       · exact .inl ⟨rfl, zaj (zap rfl) rfl⟩
       · exact .inl ⟨rfl, zaj (zal (s := 1) rfl Try.underlying26 (by kernel_rfl) rfl rfl (zak hu) (by omega) (by omega)) rfl⟩
       · exact .inl ⟨rfl, zaj (zam (u := .int .i64 (xs.getD i 0)) rfl (by kernel_rfl) rfl (zak hu) (zbg (show _ < xs.length by omega))) rfl⟩
       · exact .inl ⟨rfl, zdg (zcq rfl rfl rfl rfl) hb34⟩
       exact .inl ⟨rfl, zaj (zap rfl) rfl⟩
      refine zac [90, 44, 31, 28, 17, 8, 7, 6, 5, 4, 1, 0] rfl ?_
      simp only [List.drop_succ_cons, List.drop_zero]
      refine zad 1 rfl (zac [75, 44, 31, 28, 17, 8, 7, 6, 5, 4, 1, 0] rfl (zae ?_))
      exact zef true (fun _ => by first | omega | contradiction) (zan [75, 44, 31, 28, 17, 8, 7, 6, 5, 4, 1, 0] rfl) ((.cons_cons _ .slnil))
     have hb34p : ¬ (ys.getD j 0 < xs.getD i 0) := of_decide_eq_false hb34
     have hlt5 := hm5 (by assumption)
     refine zca 15 [[], [], [1], [0, 2], [3], [4], [4], [4, 5, 6], [4, 7], [4], [4], [4, 9, 10], [4, 11], [4, 8, 12], [4, 13]] [76, 77, 78, 79, 80, 81, 82, 83, 84, 85, 86, 87, 88, 89, 90] [.int .i64 (i : Int), u, .int .i64 (xs.length : Int), .bool false, .bool false, v, .int .i64 (j : Int), elP v (((j : Int)).toNat * 1), .int .i64 (ys.getD j 0), u, .int .i64 (i : Int), elP u (((i : Int)).toNat * 1), .int .i64 (xs.getD i 0), .bool false, .bool false] (by kernel_rfl) rfl ?_ ?_
     ·
      refine ⟨?_, ?_, ?_, ?_, ?_, ?_, ?_, ?_, ?_, ?_, ?_, ?_, ?_, ?_, ?_, trivial⟩
      · exact .inl ⟨rfl, zaj (zap rfl) rfl⟩
      · exact .inl ⟨rfl, zaj (zap rfl) rfl⟩
      · exact .inl ⟨rfl, zaj (zbo rfl Try.underlying26 rfl (zak hu)) rfl⟩
      · exact .inl ⟨rfl, zdg (zcq rfl rfl rfl rfl) hb33⟩
      · exact .inl ⟨rfl, zaj (zap rfl) rfl⟩
      · exact .inl ⟨rfl, zaj (zap rfl) rfl⟩
      · exact .inl ⟨rfl, zaj (zap rfl) rfl⟩
      · exact .inl ⟨rfl, zaj (zal (s := 1) rfl Try.underlying26 (by kernel_rfl) rfl rfl (zak hv) (by omega) (by omega)) rfl⟩
      · exact .inl ⟨rfl, zaj (zam (u := .int .i64 (ys.getD j 0)) rfl (by kernel_rfl) rfl (zak hv) (zbg (show _ < ys.length by omega))) rfl⟩
      · exact .inl ⟨rfl, zaj (zap rfl) rfl⟩
      · exact .inl ⟨rfl, zaj (zap rfl) rfl⟩
      · exact .inl ⟨rfl, zaj (zal (s := 1) rfl Try.underlying26 (by kernel_rfl) rfl rfl (zak hu) (by omega) (by omega)) rfl⟩
      · exact .inl ⟨rfl, zaj (zam (u := .int .i64 (xs.getD i 0)) rfl (by kernel_rfl) rfl (zak hu) (zbg (show _ < xs.length by omega))) rfl⟩
      · exact .inl ⟨rfl, zdg (zcq rfl rfl rfl rfl) hb34⟩
      exact .inl ⟨rfl, zaj (zap rfl) rfl⟩
     refine zac [90, 44, 31, 28, 17, 8, 7, 6, 5, 4, 1, 0] rfl ?_
     simp only [List.drop_succ_cons, List.drop_zero]
     refine zad 1 rfl (zac [75, 44, 31, 28, 17, 8, 7, 6, 5, 4, 1, 0] rfl (zae ?_))
     exact zef false (fun _ => by first | omega | contradiction) (zan [75, 44, 31, 28, 17, 8, 7, 6, 5, 4, 1, 0] rfl) ((.cons_cons _ .slnil))
    intro b7 hm35
    have hm7 := hm35
    refine hc_cond rfl (fun h36 => ?_) (fun h36 => ?_)
    ·
     refine zaf (zab (zad 3 rfl ?_))
     have hlt6 := hm5 (by assumption)
     refine hl_v rfl rfl rfl (zal (s := 1) rfl Try.underlying26 (by kernel_rfl) rfl rfl (zak hv) (by omega) (by omega)) (hl_v rfl rfl rfl (zam (u := .int .i64 (ys.getD j 0)) rfl (by kernel_rfl) rfl (zak hv) (zbg (show _ < ys.length by omega))) ?_)
     refine zbr rfl rfl rfl (zbe (z := .int .i64 0) (s := 1) (cs := ([ys.getD j 0].map (Value.int .i64))) rfl Try.underlying26 (by kernel_rfl) (by decide) rfl (by kernel_rfl) rfl) ?_
     intro g37
     refine zco (i := 1) (z := .int .i64 0) (bytes := 8) rfl rfl rfl rfl Try.underlying26 (by kernel_rfl) (by kernel_rfl) rfl rfl rfl (zas 0 rfl) (zcd _) (by first | omega | (simp; done) | (simp; omega)) (zcb os ([ys.getD j 0])) (zcv os ([ys.getD j 0])) (fun _ => rfl) ?_
     intro v38
     refine zad 1 rfl (zac [75, 44, 31, 28, 17, 8, 7, 6, 5, 4, 1, 0] rfl (zae (zaa (zab (zad 1 rfl ?_)))))
     refine hl_v rfl rfl rfl (zbj rfl rfl rfl (by constructor <;> omega)) (zad 1 rfl (zac [75, 44, 31, 28, 17, 8, 7, 6, 5, 4, 1, 0] rfl (zae (zai (zai ?_)))))
     exact zbx i (j + 1) v38 (os ++ ([ys.getD j 0])) ⟨by omega, by omega, by rw [List.length_append, List.length_singleton]; omega⟩ (by omega) (zan [17, 8, 7, 6, 5, 4, 1, 0] rfl) ((.cons _ (.cons_cons _ .slnil)))
    refine zaf (zab (zad 3 rfl ?_))
    have hlt6 := hm5 (by assumption)
    have hlt7 := hm7 (by assumption)
    refine hl_v rfl rfl rfl (zal (s := 1) rfl Try.underlying26 (by kernel_rfl) rfl rfl (zak hu) (by omega) (by omega)) (hl_v rfl rfl rfl (zam (u := .int .i64 (xs.getD i 0)) rfl (by kernel_rfl) rfl (zak hu) (zbg (show _ < xs.length by omega))) ?_)
    refine zbr rfl rfl rfl (zbe (z := .int .i64 0) (s := 1) (cs := ([xs.getD i 0].map (Value.int .i64))) rfl Try.underlying26 (by kernel_rfl) (by decide) rfl (by kernel_rfl) rfl) ?_
    intro g39
    refine zco (i := 1) (z := .int .i64 0) (bytes := 8) rfl rfl rfl rfl Try.underlying26 (by kernel_rfl) (by kernel_rfl) rfl rfl rfl (zas 0 rfl) (zcd _) (by first | omega | (simp; done) | (simp; omega)) (zcb os ([xs.getD i 0])) (zcv os ([xs.getD i 0])) (fun _ => rfl) ?_
    intro v40
    refine zad 1 rfl (zac [75, 44, 31, 28, 17, 8, 7, 6, 5, 4, 1, 0] rfl (zae (zaa (zaf (zab ?_)))))
    refine zad 1 rfl (hl_v rfl rfl rfl (zbj rfl rfl rfl (by constructor <;> omega)) (zad 1 rfl (zac [75, 44, 31, 28, 17, 8, 7, 6, 5, 4, 1, 0] rfl (zae (zaa ?_)))))
    refine zab (zad 1 rfl (hl_v rfl rfl rfl (zbj rfl rfl rfl (by constructor <;> omega)) (zad 1 rfl (zac [75, 44, 31, 28, 17, 8, 7, 6, 5, 4, 1, 0] rfl (zae ?_)))))
    refine zai (zai ?_)
    exact zbx (i + 1) (j + 1) v40 (os ++ ([xs.getD i 0])) ⟨by omega, by omega, by rw [List.length_append, List.length_singleton]; omega⟩ (by omega) (zan [17, 8, 7, 6, 5, 4, 1, 0] rfl) ((.cons _ (.cons_cons _ .slnil)))
   refine zad 1 rfl (zac [28, 17, 8, 7, 6, 5, 4, 1, 0] rfl (zae (zaa (zaq rfl ?_))))
   refine zbp ?_
   refine zah (zah ?_)
   refine zav ?_
   refine zaa (zaf (zab (zad 3 rfl (zac [28, 17, 8, 7, 6, 5, 4, 1, 0] rfl (zae ?_)))))
   refine zaa ?_
   refine zbl ?_
   exact zde (rs := [.tmp 4, .tmp 5]) (vs := [gu, .bool true]) (post := [rowE 3 1 gu os.length (os.map (Value.int .i64))]) rfl ⟨rfl, rfl, trivial⟩ rfl ((.cons_cons _ .slnil)) ⟨_, os, true, rfl, rfl, hol⟩
  refine zad 2 rfl (zac [17, 6, 5, 4, 1, 0] rfl (zae (zaa (zbb rfl (zaf ?_)))))
  refine zab (zad 3 rfl (zac [17, 6, 5, 4, 1, 0] rfl (zae (zaa ?_))))
  refine zbl ?_
  refine zao ?_
  exact zde (rs := [.tmp 4, .tmp 5]) (vs := [.slice (some ⟨g1, 0, none⟩) 0 0, .bool false]) (post := [rowE 3 1 (.slice (some ⟨g1, 0, none⟩) 0 0) 0 ([])]) rfl ⟨rfl, rfl, trivial⟩ rfl ((.cons_cons _ .slnil)) ⟨_, [], false, rfl, rfl, by simp⟩
 refine zad 3 rfl (zbi rfl rfl rfl (zad 2 rfl (zac [17, 6, 5, 4, 1, 0] rfl (zae (zaa ?_)))))
 refine zbb rfl (zaf (zab (zad 3 rfl (zac [17, 6, 5, 4, 1, 0] rfl (zae ?_)))))
 refine zaa ?_
 refine zbl ?_
 refine zao ?_
 exact zde (rs := [.tmp 4, .tmp 5]) (vs := [.slice (some ⟨g1, 0, none⟩) 0 0, .bool false]) (post := [rowE 3 1 (.slice (some ⟨g1, 0, none⟩) 0 0) 0 ([])]) rfl ⟨rfl, rfl, trivial⟩ rfl ((.cons_cons _ .slnil)) ⟨_, [], false, rfl, rfl, by simp⟩
set_option maxHeartbeats 4000000 in
set_option maxRecDepth 100000 in
theorem l13Add_ret (rs : List CRow) (ux : List Int) (v uv : Value) (w : World) (hv : RdsCl w v rs) (hr4 : ∀ r ∈ rs, r.xs.length ≤ 4) (hrl : rs.length ≤ 1000) (hu : RdsW w uv 1 ux.length (ux.map (Value.int .i64))) (hul : ux.length ≤ 4) :
   Calls Try.prog 106 #[v, uv] w (Ret w (fun u_ p_ => ∃ zs : List CRow, p_ = [rowE 26 1 u_ zs.length (zs.flatMap crowC)] ∧ (∀ z ∈ zs, z = CRow.mk uv ux ∨ z ∈ rs) ∧ zs.length ≤ rs.length + 1)) := by
 refine zbq (N := 51) (args := [v, uv]) Try.func106 rfl rfl ?_
 refine zbt _ [1, 0] rfl (zaf (zab (zad 1 rfl (zac [4, 1, 0] rfl (zae ?_)))))
 refine zaa (zaf (zab ?_))
 refine zbr rfl rfl rfl (zcr (s := 1) rfl Try.underlying41 (by kernel_rfl)) ?_
 intro g1
 refine zad 1 rfl (zac [5, 4, 1, 0] rfl (zae (zaa (zaf (zab ?_)))))
 refine zad 1 rfl (zac [6, 5, 4, 1, 0] rfl (zae (zaa (zaf (zaf ?_)))))
 refine zab (zad 1 rfl (zac [7, 6, 5, 4, 1, 0] rfl (zae (zaa (zax ?_)))))
 refine zdl (α := Nat) (β := List CRow) (γ := Value) (δ := Nat) (fun i zs gu c => [rowE 26 1 gu zs.length (zs.flatMap crowC)]) (fun i zs gu c => [(0, v), (1, uv), (4, .slice none 0 0), (5, gu), (6, .bool (decide (c = 1))), (7, .int .i64 (i : Int))]) (fun i zs gu c => i ≤ rs.length ∧ c ≤ 1 ∧ (∀ z ∈ zs, z = CRow.mk uv ux ∨ z ∈ rs) ∧ zs.length ≤ i + c) (fun i zs gu c => rs.length - i) 0 [] _ 0 ⟨Nat.zero_le _, by omega, (fun z hz => by cases hz), by simp⟩ (zan [7, 6, 5, 4, 1, 0] rfl) ((.cons_cons _ .slnil)) ?_
 intro i zs gu c hi2
 obtain ⟨hi, hc, hzm, hzl⟩ := hi2
 refine zaf (zaf (zab (zad 2 rfl (hl_v rfl rfl rfl (zbo rfl Try.underlying41 rfl (zak hv.row)) ?_))))
 refine zbw rfl rfl rfl rfl rfl rfl (fun h3 => ?_) (fun h3 => ?_)
 ·
  refine zac [12, 7, 6, 5, 4, 1, 0] rfl (zae (zaa (zbb rfl (zaz (zaa ?_)))))
  refine zaf (zax (zaf (zaf (zab (hl_v rfl rfl rfl (zap rfl) ?_)))))
  refine zck (fun h4 => ?_) (fun h4 => ?_)
  ·
   have h4p : c = 1 := of_decide_eq_true h4
   refine zad 4 rfl (zbi rfl rfl rfl (zbi rfl rfl rfl (zad 1 rfl (zbi rfl rfl rfl (zad 2 rfl ?_)))))
   refine zac [25, 12, 7, 6, 5, 4, 1, 0] rfl (zae (zaa (zaq rfl (zaz (zaa ?_)))))
   refine zab (zad 3 rfl (hl_v rfl rfl rfl (zal (s := 1) rfl Try.underlying41 (by kernel_rfl) rfl rfl (zak hv.row) (by omega) (by omega)) ?_))
   refine hl_v rfl rfl rfl (zam (u := (rs.getD i crow0).v) rfl (by kernel_rfl) rfl (zak hv.row) (zbz crowC (fun r => r.v) (fun _ => rfl) rs crow0 (show i < _ by omega))) ?_
   refine zbr rfl rfl rfl (zdx rfl Try.underlying41 (by kernel_rfl) rfl (hv.at (k := i) (by omega)).one) ?_
   intro g5
   refine zco (i := 1) (z := .slice none 0 0) (bytes := 24) rfl rfl rfl rfl Try.underlying41 (by kernel_rfl) (by kernel_rfl) rfl rfl rfl (zas 0 rfl) (fun q hq => by rw [List.mem_singleton] at hq; subst hq; exact (hv.at (k := i) (by omega)).one) (by first | omega | (simp only [List.length_append, List.length_cons, List.length_nil]; omega)) (zcb zs [(rs.getD i crow0)]) (zdc crowC zs (rs.getD i crow0) _ rfl) (fun _ => rfl) ?_
   intro v6
   refine zad 1 rfl (zac [25, 12, 7, 6, 5, 4, 1, 0] rfl (zae (zai (zaa (zab ?_)))))
   refine zad 1 rfl (hl_v rfl rfl rfl (zbj rfl rfl rfl (by constructor <;> omega)) (zad 1 rfl (zac [25, 12, 7, 6, 5, 4, 1, 0] rfl (zae ?_))))
   exact zbx (i + 1) (zs ++ [(rs.getD i crow0)]) v6 c ⟨by omega, by omega, (app_mem hzm (.inr (zcp (by omega)))), by simp only [List.length_append, List.length_cons, List.length_nil]; omega⟩ (by omega) (zan [7, 6, 5, 4, 1, 0] rfl) ((.cons _ (.cons_cons _ .slnil)))
  have h4p : ¬ c = 1 := of_decide_eq_false h4
  refine zad 4 rfl (hl_v rfl rfl rfl (zal (s := 1) rfl Try.underlying41 (by kernel_rfl) rfl rfl (zak hv.row) (by omega) (by omega)) ?_)
  refine hl_v rfl rfl rfl (zam (u := (rs.getD i crow0).v) rfl (by kernel_rfl) rfl (zak hv.row) (zbz crowC (fun r => r.v) (fun _ => rfl) rs crow0 (show i < _ by omega))) ?_
  refine zad 1 rfl ?_
  have h4i := hr4 _ (zcp (es := rs) (i := i) (d := crow0) (by omega))
  refine zbm rfl rfl rfl (zba (by kernel_rfl) rfl (fun w hm => zbk (CutLessE_ans ((rs.getD i crow0).xs) ux _ _ w ((zak (hv.at (k := i) (by omega))) w hm) ((zak hu) w hm) (by omega)))) ?_
  refine zck (fun h7 => ?_) (fun h7 => ?_)
  ·
   refine zad 2 rfl (zac [25, 12, 7, 6, 5, 4, 1, 0] rfl (zae (zaa (zaq rfl (zaz ?_)))))
   refine zaa (zab (zad 3 rfl (hl_v rfl rfl rfl (zal (s := 1) rfl Try.underlying41 (by kernel_rfl) rfl rfl (zak hv.row) (by omega) (by omega)) ?_)))
   refine hl_v rfl rfl rfl (zam (u := (rs.getD i crow0).v) rfl (by kernel_rfl) rfl (zak hv.row) (zbz crowC (fun r => r.v) (fun _ => rfl) rs crow0 (show i < _ by omega))) ?_
   refine zbr rfl rfl rfl (zdx rfl Try.underlying41 (by kernel_rfl) rfl (hv.at (k := i) (by omega)).one) ?_
   intro g8
   refine zco (i := 1) (z := .slice none 0 0) (bytes := 24) rfl rfl rfl rfl Try.underlying41 (by kernel_rfl) (by kernel_rfl) rfl rfl rfl (zas 0 rfl) (fun q hq => by rw [List.mem_singleton] at hq; subst hq; exact (hv.at (k := i) (by omega)).one) (by first | omega | (simp only [List.length_append, List.length_cons, List.length_nil]; omega)) (zcb zs [(rs.getD i crow0)]) (zdc crowC zs (rs.getD i crow0) _ rfl) (fun _ => rfl) ?_
   intro v9
   refine zad 1 rfl (zac [25, 12, 7, 6, 5, 4, 1, 0] rfl (zae (zai (zaa (zab ?_)))))
   refine zad 1 rfl (hl_v rfl rfl rfl (zbj rfl rfl rfl (by constructor <;> omega)) (zad 1 rfl (zac [25, 12, 7, 6, 5, 4, 1, 0] rfl (zae ?_))))
   exact zbx (i + 1) (zs ++ [(rs.getD i crow0)]) v9 c ⟨by omega, by omega, (app_mem hzm (.inr (zcp (by omega)))), by simp only [List.length_append, List.length_cons, List.length_nil]; omega⟩ (by omega) (zan [7, 6, 5, 4, 1, 0] rfl) ((.cons _ (.cons_cons _ .slnil)))
  refine zad 2 rfl (zac [25, 12, 7, 6, 5, 4, 1, 0] rfl (zae (zaa (zbb rfl (zaf ?_)))))
  refine zab (zad 1 rfl (zac [25, 12, 7, 6, 5, 4, 1, 0] rfl (zae (zaa (zaf ?_)))))
  refine zab (zad 2 rfl ?_)
  refine zbr rfl rfl rfl (zdx rfl Try.underlying41 (by kernel_rfl) rfl hu.one) ?_
  intro g10
  refine zco (i := 1) (z := .slice none 0 0) (bytes := 24) rfl rfl rfl rfl Try.underlying41 (by kernel_rfl) (by kernel_rfl) rfl rfl rfl (zas 0 rfl) (fun q hq => by rw [List.mem_singleton] at hq; subst hq; exact hu.one) (by first | omega | (simp only [List.length_append, List.length_cons, List.length_nil]; omega)) (zcb zs [(CRow.mk uv ux)]) (zdc crowC zs (CRow.mk uv ux) _ rfl) (fun _ => rfl) ?_
  intro v11
  refine zad 1 rfl (zac [25, 12, 7, 6, 5, 4, 1, 0] rfl (zae (zaa (zaf (zab ?_)))))
  refine zad 3 rfl (hl_v rfl rfl rfl (zal (s := 1) rfl Try.underlying41 (by kernel_rfl) rfl rfl (zak hv.row) (by omega) (by omega)) ?_)
  refine hl_v rfl rfl rfl (zam (u := (rs.getD i crow0).v) rfl (by kernel_rfl) rfl (zak hv.row) (zbz crowC (fun r => r.v) (fun _ => rfl) rs crow0 (show i < _ by omega))) ?_
  refine zbm rfl rfl rfl (zba (by kernel_rfl) rfl (fun w hm => zbk (CutLessE_ans ux ((rs.getD i crow0).xs) _ _ w ((zak hu) w hm) ((zak (hv.at (k := i) (by omega))) w hm) (by omega)))) ?_
  refine zck (fun h12 => ?_) (fun h12 => ?_)
  ·
   refine zad 1 rfl (zac [36, 25, 12, 7, 6, 5, 4, 1, 0] rfl (zae (zaa (zaq rfl (zaz ?_)))))
   refine zaa (zab (zad 3 rfl (hl_v rfl rfl rfl (zal (s := 1) rfl Try.underlying41 (by kernel_rfl) rfl rfl (zak hv.row) (by omega) (by omega)) ?_)))
   refine hl_v rfl rfl rfl (zam (u := (rs.getD i crow0).v) rfl (by kernel_rfl) rfl (zak hv.row) (zbz crowC (fun r => r.v) (fun _ => rfl) rs crow0 (show i < _ by omega))) ?_
   refine zbr rfl rfl rfl (zdx rfl Try.underlying41 (by kernel_rfl) rfl (hv.at (k := i) (by omega)).one) ?_
   intro g13
   refine zco (i := 2) (z := .slice none 0 0) (bytes := 24) rfl rfl rfl rfl Try.underlying41 (by kernel_rfl) (by kernel_rfl) rfl rfl rfl (zas 0 rfl) (fun q hq => by rw [List.mem_singleton] at hq; subst hq; exact (hv.at (k := i) (by omega)).one) (by first | omega | (simp only [List.length_append, List.length_cons, List.length_nil]; omega)) (zcb (zs ++ [(CRow.mk uv ux)]) [(rs.getD i crow0)]) (zdc crowC (zs ++ [(CRow.mk uv ux)]) (rs.getD i crow0) _ rfl) (fun _ => rfl) ?_
   intro v14
   refine zad 1 rfl (zac [36, 25, 12, 7, 6, 5, 4, 1, 0] rfl (zae (zai (zaa (zab ?_)))))
   refine zad 1 rfl (hl_v rfl rfl rfl (zbj rfl rfl rfl (by constructor <;> omega)) (zad 1 rfl (zac [36, 25, 12, 7, 6, 5, 4, 1, 0] rfl (zae ?_))))
   exact zbx (i + 1) ((zs ++ [(CRow.mk uv ux)]) ++ [(rs.getD i crow0)]) v14 1 ⟨by omega, by omega, (app_mem (app_mem hzm (.inl rfl)) (.inr (zcp (by omega)))), by simp only [List.length_append, List.length_cons, List.length_nil]; omega⟩ (by omega) (zan [7, 6, 5, 4, 1, 0] rfl) ((.cons _ (.cons _ (.cons_cons _ .slnil))))
  refine zad 1 rfl (zac [36, 25, 12, 7, 6, 5, 4, 1, 0] rfl (zae (zaa (zbb rfl ?_))))
  refine zbp ?_
  refine zah ?_
  refine zav ?_
  refine zaa (zab (zad 1 rfl (hl_v rfl rfl rfl (zbj rfl rfl rfl (by constructor <;> omega)) (zad 1 rfl (zac [36, 25, 12, 7, 6, 5, 4, 1, 0] rfl ?_)))))
  refine zae ?_
  exact zbx (i + 1) (zs ++ [(CRow.mk uv ux)]) v11 1 ⟨by omega, by omega, (app_mem hzm (.inl rfl)), by simp only [List.length_append, List.length_cons, List.length_nil]; omega⟩ (by omega) (zan [7, 6, 5, 4, 1, 0] rfl) ((.cons _ (.cons_cons _ .slnil)))
 refine zac [12, 7, 6, 5, 4, 1, 0] rfl (zae (zaa (zaq rfl ?_)))
 refine zbp ?_
 refine zah (zah ?_)
 refine zav ?_
 refine zaa (zaf (zaf (zab (hl_v rfl rfl rfl (zap rfl) ?_))))
 refine zck (fun h15 => ?_) (fun h15 => ?_)
 ·
  have h15p : c = 1 := of_decide_eq_true h15
  refine zad 1 rfl (zac [45, 12, 7, 6, 5, 4, 1, 0] rfl (zae (zaa (zaq rfl (zaz ?_)))))
  refine zaa (zaf (zab (zad 2 rfl (zac [45, 12, 7, 6, 5, 4, 1, 0] rfl (zae ?_)))))
  refine zaa ?_
  refine zbl ?_
  exact zdn (post := [rowE 26 1 gu zs.length (zs.flatMap crowC)]) rfl rfl ((.cons_cons _ .slnil)) ⟨_, rfl, hzm, by omega⟩
 have h15p : ¬ c = 1 := of_decide_eq_false h15
 refine zad 1 rfl (zac [45, 12, 7, 6, 5, 4, 1, 0] rfl (zae (zaa (zbb rfl (zab ?_)))))
 refine zad 2 rfl ?_
 refine zbr rfl rfl rfl (zdx rfl Try.underlying41 (by kernel_rfl) rfl hu.one) ?_
 intro g16
 refine zco (i := 1) (z := .slice none 0 0) (bytes := 24) rfl rfl rfl rfl Try.underlying41 (by kernel_rfl) (by kernel_rfl) rfl rfl rfl (zas 0 rfl) (fun q hq => by rw [List.mem_singleton] at hq; subst hq; exact hu.one) (by first | omega | (simp only [List.length_append, List.length_cons, List.length_nil]; omega)) (zcb zs [(CRow.mk uv ux)]) (zdc crowC zs (CRow.mk uv ux) _ rfl) (fun _ => rfl) ?_
 intro v17
 refine zad 1 rfl (zac [45, 12, 7, 6, 5, 4, 1, 0] rfl (zae (zaa (zaf (zab ?_)))))
 refine zad 2 rfl (zac [45, 12, 7, 6, 5, 4, 1, 0] rfl (zae (zaa ?_)))
 refine zbl ?_
 exact zdn (post := [rowE 26 1 v17 ((zs ++ [(CRow.mk uv ux)]).length) ((zs ++ [(CRow.mk uv ux)]).flatMap crowC)]) rfl rfl ((.cons _ (.cons_cons _ .slnil))) ⟨_, rfl, (app_mem hzm (.inl rfl)), by simp only [List.length_append, List.length_cons, List.length_nil]; omega⟩
set_option maxHeartbeats 4000000 in
set_option maxRecDepth 100000 in
theorem l13Join_ret (ca cb : List CRow) (u v : Value) (w : World) (ha : RdsCl w u ca) (hb : RdsCl w v cb) (h4a : ∀ r ∈ ca, r.xs.length ≤ 4) (h4b : ∀ r ∈ cb, r.xs.length ≤ 4) (ha8 : ca.length ≤ 8) (hb8 : cb.length ≤ 8) :
   Calls Try.prog 102 #[u, v] w (Ret w (fun u_ p_ => ∃ (ps : List HP) (us : List CRow), p_ = [rowE 26 1 u_ us.length (us.flatMap crowC), bigE ps] ∧ (∀ w, (bigE ps).holds w → RdsAll w us) ∧ us.length ≤ 7 ∧ ∀ r ∈ us, r.xs.length ≤ 4)) := by
 refine zbq (N := 95) (args := [u, v]) Try.func102 rfl rfl ?_
 refine zbt _ [1, 0] rfl (zaf (zab (zad 1 rfl (zac [4, 1, 0] rfl (zae ?_)))))
 refine zaa (zaf (zab ?_))
 refine zbr rfl rfl rfl (zcr (s := 1) rfl Try.underlying41 (by kernel_rfl)) ?_
 intro g1
 refine zad 1 rfl (zac [5, 4, 1, 0] rfl (zae (zaa (zaf (zaf ?_)))))
 refine zab (zad 1 rfl (zac [6, 5, 4, 1, 0] rfl (zae (zaa (zax ?_)))))
 refine zea _ zfk ?_
 refine zdl (α := Nat) (β := List CRow) (γ := Value) (δ := List HP) (fun i rs lv ps => [bigE ps, rowE 26 1 lv rs.length (rs.flatMap crowC)]) (fun i rs lv ps => [(0, u), (1, v), (4, .slice none 0 0), (5, lv), (6, .int .i64 (i : Int))]) (fun i rs lv ps => i ≤ ca.length ∧ rs.length ≤ i * cb.length + 0 ∧ (∀ r ∈ rs, r.xs.length ≤ 4) ∧ ∀ w, (bigE ps).holds w → RdsAll w rs) (fun i rs lv ps => ca.length - i) 0 [] _ [] ⟨Nat.zero_le _, by simp, (fun r hr => by cases hr), fun w _ => RdsAll.nil w⟩ (zan [6, 5, 4, 1, 0] rfl) ((.cons_cons _ (.cons_cons _ .slnil))) ?_
 intro i rs lv ps hi2
 obtain ⟨hi, hrl, h4, hps⟩ := hi2
 have hrs := mul_small hrl (by omega) (by omega) (by omega)
 refine zaf (zaf (zab (zad 2 rfl (hl_v rfl rfl rfl (zbo rfl Try.underlying41 rfl (zak ha.row)) ?_))))
 refine zbw rfl rfl rfl rfl rfl rfl (fun h3 => ?_) (fun h3 => ?_)
 ·
  refine zac [18, 6, 5, 4, 1, 0] rfl (zae (zaa (zbb rfl (zaz (zaa ?_)))))
  refine zaf (zax (zaf (zab (zad 1 rfl (zac [18, 7, 6, 5, 4, 1, 0] rfl ?_)))))
  refine zae (zaa (zax ?_))
  refine zdl (α := Nat) (β := List CRow) (γ := Value) (δ := List HP) (fun j rs2 lv2 ps2 => [bigE ps2, rowE 26 1 lv2 rs2.length (rs2.flatMap crowC)]) (fun j rs2 lv2 ps2 => [(0, u), (1, v), (4, .slice none 0 0), (5, lv2), (6, .int .i64 (i : Int)), (7, .int .i64 (j : Int)), (18, .bool true)]) (fun j rs2 lv2 ps2 => j ≤ cb.length ∧ rs2.length ≤ i * cb.length + j ∧ (∀ r ∈ rs2, r.xs.length ≤ 4) ∧ ∀ w, (bigE ps2).holds w → RdsAll w rs2) (fun j rs2 lv2 ps2 => cb.length - j) 0 rs _ _ ⟨Nat.zero_le _, hrl, h4, hps⟩ (zan [18, 7, 6, 5, 4, 1, 0] rfl) ((.cons_cons _ (.cons_cons _ .slnil))) ?_
  intro j rs2 lv2 ps2 hi4
  obtain ⟨hj, hrl2, h42, hps2⟩ := hi4
  have hrs2 := mul_small hrl2 (by omega) (by omega) (by omega)
  refine zaf (zaf (zab (zad 2 rfl (hl_v rfl rfl rfl (zbo rfl Try.underlying41 rfl (zak hb.row)) ?_))))
  refine zbw rfl rfl rfl rfl rfl rfl (fun h5 => ?_) (fun h5 => ?_)
  ·
   refine zac [24, 18, 7, 6, 5, 4, 1, 0] rfl (zae (zaa (zbb rfl (zaz (zaa ?_)))))
   refine zaf (zax (zaf ?_))
   have h4i := h4a _ (zcp (es := ca) (i := i) (d := crow0) (by omega))
   have h4j := h4b _ (zcp (es := cb) (i := j) (d := crow0) (by omega))
   refine zdj (by kernel_rfl) 13 [0, 1, 2, 3, 4, 5, 6, 7, 8, 9, 10, 11, 12] (List.take 13 _) (List.drop 13 _) [[], [], [0, 1], [2], [], [], [4, 5], [6], [3, 7], [8], [8, 9], [8, 9], [8, 10]] [28, 29, 30, 31, 32, 33, 34, 35, 36, 27, 37, 38, 8] (fun i_ vs_ v_ p_ => match i_ with | 0 => v_ = u ∧ p_ = [] | 1 => v_ = .int .i64 (i : Int) ∧ p_ = [] | 2 => v_ = elP u (((i : Int)).toNat * 1) ∧ p_ = [] | 3 => v_ = (ca.getD i crow0).v ∧ p_ = [] | 4 => v_ = v ∧ p_ = [] | 5 => v_ = .int .i64 (j : Int) ∧ p_ = [] | 6 => v_ = elP v (((j : Int)).toNat * 1) ∧ p_ = [] | 7 => v_ = (cb.getD j crow0).v ∧ p_ = [] | 8 => (fun u_ p_ => ∃ (mv : Value) (us : List Int) (mb : Bool), u_ = .tuple #[mv, .bool mb] ∧ p_ = [rowE 3 1 mv us.length (us.map (Value.int .i64))] ∧ us.length ≤ 4) v_ p_ | 9 => v_ = .tuple #[(tFstH (List.getD vs_ 0 undef)), .bool (tSndB (List.getD vs_ 0 undef))] ∧ p_ = [] | 10 => v_ = (tFstH (List.getD vs_ 0 undef)) ∧ p_ = [] | 11 => v_ = .bool (tSndB (List.getD vs_ 0 undef)) ∧ p_ = [] | 12 => v_ = (tFstH (List.getD vs_ 0 undef)) ∧ p_ = [] | _ => True) (List.take_append_drop 13 _).symm (by kernel_rfl) (by kernel_rfl) rfl rfl ?_ ?_
   ·
    refine ⟨?_, ?_, ?_, ?_, ?_, ?_, ?_, ?_, ?_, ?_, ?_, ?_, ?_, trivial⟩
    ·
     intro vf pf hR
     refine Or.inl ⟨rfl, ?_⟩
     refine zbh (sk 0 rfl (zag _)) ?_
     exact rq_v (zap rfl)
    ·
     intro vf pf hR
     refine Or.inl ⟨rfl, ?_⟩
     refine zbh (sk 6 rfl (zag _)) ?_
     exact rq_v (zap rfl)
    ·
     intro vf pf hR
     have e0 : (vf 0) = u ∧ (pf 0) = [] := hR 0 (by decide)
     have e1 : (vf 1) = .int .i64 (i : Int) ∧ (pf 1) = [] := hR 1 (by decide)
     refine Or.inl ⟨rfl, ?_⟩
     refine zau (sk 28 (congrArg some e0.1) (sk 29 (congrArg some e1.1) (zag _))) (List.sublist_append_right _ _) ?_
     exact rq_v (zal (s := 1) rfl Try.underlying41 (by kernel_rfl) rfl rfl (zak ha.row) (by omega) (by omega))
    ·
     intro vf pf hR
     have e2 : (vf 2) = elP u (((i : Int)).toNat * 1) ∧ (pf 2) = [] := hR 2 (by decide)
     refine Or.inl ⟨rfl, ?_⟩
     refine zau (sk 30 (congrArg some e2.1) (zag _)) (List.sublist_append_right _ _) ?_
     exact rq_v (zam (u := (ca.getD i crow0).v) rfl (by kernel_rfl) rfl (zak ha.row) (zbz crowC (fun r => r.v) (fun _ => rfl) ca crow0 (show i < _ by omega)))
    ·
     intro vf pf hR
     refine Or.inl ⟨rfl, ?_⟩
     refine zbh (sk 1 rfl (zag _)) ?_
     exact rq_v (zap rfl)
    ·
     intro vf pf hR
     refine Or.inl ⟨rfl, ?_⟩
     refine zbh (sk 7 rfl (zag _)) ?_
     exact rq_v (zap rfl)
    ·
     intro vf pf hR
     have e4 : (vf 4) = v ∧ (pf 4) = [] := hR 4 (by decide)
     have e5 : (vf 5) = .int .i64 (j : Int) ∧ (pf 5) = [] := hR 5 (by decide)
     refine Or.inl ⟨rfl, ?_⟩
     refine zau (sk 32 (congrArg some e4.1) (sk 33 (congrArg some e5.1) (zag _))) (List.sublist_append_right _ _) ?_
     exact rq_v (zal (s := 1) rfl Try.underlying41 (by kernel_rfl) rfl rfl (zak hb.row) (by omega) (by omega))
    ·
     intro vf pf hR
     have e6 : (vf 6) = elP v (((j : Int)).toNat * 1) ∧ (pf 6) = [] := hR 6 (by decide)
     refine Or.inl ⟨rfl, ?_⟩
     refine zau (sk 34 (congrArg some e6.1) (zag _)) (List.sublist_append_right _ _) ?_
     exact rq_v (zam (u := (cb.getD j crow0).v) rfl (by kernel_rfl) rfl (zak hb.row) (zbz crowC (fun r => r.v) (fun _ => rfl) cb crow0 (show j < _ by omega)))
    ·
     intro vf pf hR
     have e3 : (vf 3) = (ca.getD i crow0).v ∧ (pf 3) = [] := hR 3 (by decide)
     have e7 : (vf 7) = (cb.getD j crow0).v ∧ (pf 7) = [] := hR 7 (by decide)
     refine Or.inl ⟨rfl, ?_⟩
     refine zau (sk 31 (congrArg some e3.1) (sk 35 (congrArg some e7.1) (zag _))) (List.sublist_append_right _ _) ?_
     exact zba (by kernel_rfl) rfl (fun w hm => MergeE_ret (ca.getD i crow0).xs (cb.getD j crow0).xs _ _ w ((ha.at (k := i) (by omega)).below hm.bel) ((hb.at (k := j) (by omega)).below hm.bel) (by omega) (by omega))
    ·
     intro vf pf hR
     have e8 : (fun u_ p_ => ∃ (mv : Value) (us : List Int) (mb : Bool), u_ = .tuple #[mv, .bool mb] ∧ p_ = [rowE 3 1 mv us.length (us.map (Value.int .i64))] ∧ us.length ≤ 4) (vf 8) (pf 8) := hR 8 (by decide)
     obtain ⟨v6, vE8⟩ : ∃ x, vf 8 = x := ⟨_, rfl⟩
     obtain ⟨p7, pE8⟩ : ∃ x, pf 8 = x := ⟨_, rfl⟩
     have hR8 := e8
     rw [vE8, pE8] at hR8
     obtain ⟨mv, us, mb, rfl, rfl, hul⟩ := hR8
     refine Or.inl ⟨rfl, ?_⟩
     refine zcg (sk 36 (congrArg some vE8) (zag _)) (by simp only [pE8, vE8, fS] <;> rfl) ?_
     exact zcw (rq_v (zap rfl)) (fun _ _ h => ⟨h.1.trans (by show _ = (.tuple #[(tFstH (vf 8)), .bool (tSndB (vf 8))] : Value); first | (rw [vE8]; done) | (rw [vE8]; rfl)), h.2⟩)
    ·
     intro vf pf hR
     have e8 : (fun u_ p_ => ∃ (mv : Value) (us : List Int) (mb : Bool), u_ = .tuple #[mv, .bool mb] ∧ p_ = [rowE 3 1 mv us.length (us.map (Value.int .i64))] ∧ us.length ≤ 4) (vf 8) (pf 8) := hR 8 (by decide)
     obtain ⟨v6, vE8⟩ : ∃ x, vf 8 = x := ⟨_, rfl⟩
     obtain ⟨p7, pE8⟩ : ∃ x, pf 8 = x := ⟨_, rfl⟩
     have hR8 := e8
     rw [vE8, pE8] at hR8
     obtain ⟨mv, us, mb, rfl, rfl, hul⟩ := hR8
     have e9 : (vf 9) = .tuple #[(tFstH (vf 8)), .bool (tSndB (vf 8))] ∧ (pf 9) = [] := hR 9 (by decide)
     rw [vE8] at e9
     refine Or.inl ⟨rfl, ?_⟩
     refine zcg (sk 27 (congrArg some e9.1) (zag _)) (by simp only [pE8, vE8, e9.2, fS] <;> rfl) ?_
     exact zcw (rq_v (zap rfl)) (fun _ _ h => ⟨h.1.trans (by show _ = ((tFstH (vf 8)) : Value); first | (rw [vE8]; done) | (rw [vE8]; rfl)), h.2⟩)
    ·
     intro vf pf hR
     have e8 : (fun u_ p_ => ∃ (mv : Value) (us : List Int) (mb : Bool), u_ = .tuple #[mv, .bool mb] ∧ p_ = [rowE 3 1 mv us.length (us.map (Value.int .i64))] ∧ us.length ≤ 4) (vf 8) (pf 8) := hR 8 (by decide)
     obtain ⟨v6, vE8⟩ : ∃ x, vf 8 = x := ⟨_, rfl⟩
     obtain ⟨p7, pE8⟩ : ∃ x, pf 8 = x := ⟨_, rfl⟩
     have hR8 := e8
     rw [vE8, pE8] at hR8
     obtain ⟨mv, us, mb, rfl, rfl, hul⟩ := hR8
     have e9 : (vf 9) = .tuple #[(tFstH (vf 8)), .bool (tSndB (vf 8))] ∧ (pf 9) = [] := hR 9 (by decide)
     rw [vE8] at e9
     refine Or.inl ⟨rfl, ?_⟩
     refine zcg (sk 27 (congrArg some e9.1) (zag _)) (by simp only [pE8, vE8, e9.2, fS] <;> rfl) ?_
     exact zcw (rq_v (zap rfl)) (fun _ _ h => ⟨h.1.trans (by show _ = (.bool (tSndB (vf 8)) : Value); first | (rw [vE8]; done) | (rw [vE8]; rfl)), h.2⟩)
    intro vf pf hR
    have e8 : (fun u_ p_ => ∃ (mv : Value) (us : List Int) (mb : Bool), u_ = .tuple #[mv, .bool mb] ∧ p_ = [rowE 3 1 mv us.length (us.map (Value.int .i64))] ∧ us.length ≤ 4) (vf 8) (pf 8) := hR 8 (by decide)
    obtain ⟨v6, vE8⟩ : ∃ x, vf 8 = x := ⟨_, rfl⟩
    obtain ⟨p7, pE8⟩ : ∃ x, pf 8 = x := ⟨_, rfl⟩
    have hR8 := e8
    rw [vE8, pE8] at hR8
    obtain ⟨mv, us, mb, rfl, rfl, hul⟩ := hR8
    have e10 : (vf 10) = (tFstH (vf 8)) ∧ (pf 10) = [] := hR 10 (by decide)
    rw [vE8] at e10
    refine Or.inl ⟨rfl, ?_⟩
    refine zcg (sk 37 (congrArg some e10.1) (zag _)) (by simp only [pE8, vE8, e10.2, fS] <;> rfl) ?_
    exact zcw (rq_v (zap rfl)) (fun _ _ h => ⟨h.1.trans (by show _ = ((tFstH (vf 8)) : Value); first | (rw [vE8]; done) | (rw [vE8]; rfl)), h.2⟩)
   intro vf pf hR
   have e8 : (fun u_ p_ => ∃ (mv : Value) (us : List Int) (mb : Bool), u_ = .tuple #[mv, .bool mb] ∧ p_ = [rowE 3 1 mv us.length (us.map (Value.int .i64))] ∧ us.length ≤ 4) (vf 8) (pf 8) := hR 8 (by decide)
   obtain ⟨v6, vE8⟩ : ∃ x, vf 8 = x := ⟨_, rfl⟩
   obtain ⟨p7, pE8⟩ : ∃ x, pf 8 = x := ⟨_, rfl⟩
   have hR8 := e8
   rw [vE8, pE8] at hR8
   obtain ⟨mv, us, mb, rfl, rfl, hul⟩ := hR8
   have e11 : (vf 11) = .bool (tSndB (vf 8)) ∧ (pf 11) = [] := hR 11 (by decide)
   rw [vE8] at e11
   have e12 : (vf 12) = (tFstH (vf 8)) ∧ (pf 12) = [] := hR 12 (by decide)
   rw [vE8] at e12
   have q0 : (vf 0) = u ∧ (pf 0) = [] := hR 0 (by decide)
   have q1 : (vf 1) = .int .i64 (i : Int) ∧ (pf 1) = [] := hR 1 (by decide)
   have q2 : (vf 2) = elP u (((i : Int)).toNat * 1) ∧ (pf 2) = [] := hR 2 (by decide)
   have q3 : (vf 3) = (ca.getD i crow0).v ∧ (pf 3) = [] := hR 3 (by decide)
   have q4 : (vf 4) = v ∧ (pf 4) = [] := hR 4 (by decide)
   have q5 : (vf 5) = .int .i64 (j : Int) ∧ (pf 5) = [] := hR 5 (by decide)
   have q6 : (vf 6) = elP v (((j : Int)).toNat * 1) ∧ (pf 6) = [] := hR 6 (by decide)
   have q7 : (vf 7) = (cb.getD j crow0).v ∧ (pf 7) = [] := hR 7 (by decide)
   have q9 : (vf 9) = .tuple #[(tFstH (vf 8)), .bool (tSndB (vf 8))] ∧ (pf 9) = [] := hR 9 (by decide)
   have q10 : (vf 10) = (tFstH (vf 8)) ∧ (pf 10) = [] := hR 10 (by decide)
   have q11 : (vf 11) = .bool (tSndB (vf 8)) ∧ (pf 11) = [] := hR 11 (by decide)
   have q12 : (vf 12) = (tFstH (vf 8)) ∧ (pf 12) = [] := hR 12 (by decide)
   refine zcs (sk 0 rfl (sk 1 rfl (sk 4 rfl (sk 5 rfl (sk 6 rfl (sk 7 rfl (sk 8 (congrArg some e12.1) (sk 18 rfl (sk 24 rfl (sk 38 (congrArg some e11.1) (zag _))))))))))) (by simp only [pE8, vE8, q0.2, q1.2, q2.2, q3.2, q4.2, q5.2, q6.2, q7.2, q9.2, q10.2, q11.2, q12.2, fS] <;> rfl) ?_
   simp only [List.drop_succ_cons, List.drop_zero]
   refine zad 1 rfl (zac [24, 18, 9, 8, 7, 6, 5, 4, 1, 0] rfl (zae (zaa (zaf (zab ?_)))))
   refine zad 1 rfl (zac [39, 24, 18, 9, 8, 7, 6, 5, 4, 1, 0] rfl (zae (zaa ?_)))
   refine hc_cond rfl (fun h9 => ?_) (fun h9 => ?_)
   ·
    refine zab (zad 2 rfl ?_)
    refine hl_q rfl rfl rfl (zba (by kernel_rfl) rfl (fun w hm => l13Add_ret rs2 us _ _ w ⟨zas 2 rfl w hm, hps2 w (hm.holds _ (zcl (i := 1) rfl))⟩ h42 (by omega) (zas 0 rfl w hm) hul)) ?_
    intro v10 p11 hR12
    obtain ⟨zs, rfl, hzm, hzl⟩ := hR12
    refine zad 1 rfl (zac [39, 24, 18, 9, 8, 7, 6, 5, 4, 1, 0] rfl (zae (zai (zaa (zab ?_)))))
    refine zad 1 rfl (hl_v rfl rfl rfl (zbj rfl rfl rfl (by constructor <;> omega)) (zad 1 rfl (zac [39, 24, 18, 9, 8, 7, 6, 5, 4, 1, 0] rfl (zae ?_))))
    refine zbu 4 [0, 1, 2] rfl rfl (by decide) ?_
    refine zcz 2 rfl ?_
    exact zbx (j + 1) zs v10 [bigE ps2, rowE 3 1 mv us.length (us.map (Value.int .i64))] ⟨by omega, by omega, four_cons h42 hul hzm, fun w hw => RdsAll.cons (u := CRow.mk mv us) (hps2 w (zbn hw List.mem_cons_self)) (zcc (zbn hw (List.mem_cons_of_mem _ List.mem_cons_self))) hzm⟩ (by omega) (zan [18, 7, 6, 5, 4, 1, 0] rfl) ((.cons_cons _ (.cons_cons _ .slnil)))
   refine zaz (zai (zaa (zab (zad 1 rfl (hl_v rfl rfl rfl (zbj rfl rfl rfl (by constructor <;> omega)) ?_)))))
   refine zad 1 rfl (zac [39, 24, 18, 9, 8, 7, 6, 5, 4, 1, 0] rfl (zae ?_))
   exact zbx (j + 1) rs2 lv2 ps2 ⟨by omega, by omega, h42, hps2⟩ (by omega) (zan [18, 7, 6, 5, 4, 1, 0] rfl) ((.cons _ (.cons_cons _ (.cons_cons _ .slnil))))
  refine zac [24, 18, 7, 6, 5, 4, 1, 0] rfl (zae (zaa (zaq rfl ?_)))
  refine zbp ?_
  refine zah (zah ?_)
  refine zav ?_
  refine zai (zaa (zab (zad 1 rfl (hl_v rfl rfl rfl (zbj rfl rfl rfl (by constructor <;> omega)) (zad 1 rfl ?_)))))
  refine zac [24, 18, 7, 6, 5, 4, 1, 0] rfl (zae ?_)
  exact zbx (i + 1) rs2 lv2 ps2 ⟨by omega, by rw [Nat.add_mul]; omega, h42, hps2⟩ (by omega) (zan [6, 5, 4, 1, 0] rfl) ((.cons_cons _ (.cons_cons _ .slnil)))
 refine zac [18, 6, 5, 4, 1, 0] rfl (zae (zaa (zaq rfl ?_)))
 refine zbp ?_
 refine zah (zah ?_)
 refine zav ?_
 refine zaa (zaf (zab ?_))
 refine zbr rfl rfl rfl (zcr (s := 1) rfl Try.underlying41 (by kernel_rfl)) ?_
 intro g13
 refine zad 1 rfl (zac [18, 10, 6, 5, 4, 1, 0] rfl (zae (zaa (zaf (zaf ?_)))))
 refine zab (zad 1 rfl (zac [18, 11, 10, 6, 5, 4, 1, 0] rfl (zae (zaa (zax ?_)))))
 refine zcy (α := Nat) (β := List CRow) (γ := Value) (fun i2 qs ov => [rowE 26 1 ov qs.length (qs.flatMap crowC), bigE ps, rowE 26 1 lv rs.length (rs.flatMap crowC)]) (fun i2 qs ov => [(0, u), (1, v), (4, .slice none 0 0), (5, lv), (10, ov), (11, .int .i64 (i2 : Int)), (18, .bool false)]) (fun i2 qs ov => i2 ≤ rs.length ∧ qs.length ≤ 7 ∧ ∀ q ∈ qs, q ∈ rs) (fun i2 qs ov => rs.length - i2) 0 [] _ ⟨Nat.zero_le _, by simp, fun q hq => by cases hq⟩ (zan [18, 11, 10, 5, 4, 1, 0] rfl) ((.cons_cons _ (.cons_cons _ (.cons_cons _ .slnil)))) ?_
 intro i2 qs ov hi14
 obtain ⟨hi2, hql, hqm⟩ := hi14
 refine zaf (zaf (zab (zad 2 rfl (hl_v rfl rfl rfl (zbo rfl Try.underlying41 rfl (zas 2 rfl)) ?_))))
 refine zbw rfl rfl rfl rfl rfl rfl (fun h15 => ?_) (fun h15 => ?_)
 ·
  refine zad 2 rfl (hl_v rfl rfl rfl (zbo rfl Try.underlying41 rfl (zas 0 rfl)) ?_)
  refine zbw rfl rfl rfl rfl rfl rfl (fun h16 => ?_) (fun h16 => ?_)
  ·
   refine zad 1 rfl (zac [52, 18, 11, 10, 5, 4, 1, 0] rfl (zae (zaa (zbb rfl (zaz ?_)))))
   refine zaa (zaf (zax (zaf (zab (zad 1 rfl ?_)))))
   refine zac [52, 18, 12, 11, 10, 5, 4, 1, 0] rfl (zae (zaa (zaf (zaf (zab ?_)))))
   refine zad 1 rfl (zac [52, 18, 13, 12, 11, 10, 5, 4, 1, 0] rfl (zae (zaa (zax ?_))))
   refine zdt (α := Nat) (β := Bool) (fun k2 wh => [rowE 26 1 ov qs.length (qs.flatMap crowC), bigE ps, rowE 26 1 lv rs.length (rs.flatMap crowC)]) (fun k2 wh => [(0, u), (1, v), (4, .slice none 0 0), (5, lv), (10, ov), (11, .int .i64 (i2 : Int)), (12, .bool wh), (13, .int .i64 (k2 : Int)), (18, .bool false), (52, .bool true)]) (fun k2 wh => k2 ≤ i2) (fun k2 wh => i2 - k2) 0 true (Nat.zero_le _) (zan [52, 18, 13, 12, 11, 10, 5, 4, 1, 0] rfl) ((.cons_cons _ (.cons_cons _ (.cons_cons _ .slnil)))) ?_
   intro k2 wh hi17
   have hk2 := hi17
   refine zaf (zaf (zab (zad 2 rfl ?_)))
   refine zbw rfl rfl rfl rfl rfl rfl (fun h18 => ?_) (fun h18 => ?_)
   ·
    refine zad 1 rfl (hl_v rfl rfl rfl (zap rfl) ?_)
    refine zck (fun h19 => ?_) (fun h19 => ?_)
    ·
     refine zad 1 rfl (zac [60, 52, 18, 13, 12, 11, 10, 5, 4, 1, 0] rfl (zae (zaa (zbb rfl (zaz ?_)))))
     refine zaa (zaf (zax ?_))
     have h4i := h4 _ (zcp (es := rs) (i := i2) (d := crow0) (by omega))
     have h4k := h4 _ (zcp (es := rs) (i := k2) (d := crow0) (by omega))
     rcases Bool.eq_false_or_eq_true (decide ((((rs.getD k2 crow0).xs).length : Int) < (((rs.getD i2 crow0).xs).length : Int))) with hb20 | hb20
     ·
      have hb20p : (((rs.getD k2 crow0).xs).length : Int) < (((rs.getD i2 crow0).xs).length : Int) := of_decide_eq_true hb20
      have h4i := h4 _ (zcp (es := rs) (i := i2) (d := crow0) (by omega))
      have h4k := h4 _ (zcp (es := rs) (i := k2) (d := crow0) (by omega))
      rcases Bool.eq_false_or_eq_true (List.all ((rs.getD k2 crow0).xs) (hasB ((rs.getD i2 crow0).xs))) with hb21 | hb21
      ·
       have h4i := h4 _ (zcp (es := rs) (i := i2) (d := crow0) (by omega))
       have h4k := h4 _ (zcp (es := rs) (i := k2) (d := crow0) (by omega))
       refine zca 23 [[], [], [0, 1], [2], [3], [], [], [5, 6], [7], [8], [4, 9], [10], [11], [11], [11, 12, 13], [11, 14], [11], [11], [11, 16, 17], [11, 18], [11, 15, 19], [11, 20], [21]] [63, 64, 65, 66, 67, 68, 69, 70, 71, 72, 73, 74, 75, 76, 77, 78, 79, 80, 81, 82, 83, 84, 85] [lv, .int .i64 (k2 : Int), elP lv (((k2 : Int)).toNat * 1), (rs.getD k2 crow0).v, .int .i64 (((rs.getD k2 crow0).xs).length : Int), lv, .int .i64 (i2 : Int), elP lv (((i2 : Int)).toNat * 1), (rs.getD i2 crow0).v, .int .i64 (((rs.getD i2 crow0).xs).length : Int), .bool true, .bool true, lv, .int .i64 (k2 : Int), elP lv (((k2 : Int)).toNat * 1), (rs.getD k2 crow0).v, lv, .int .i64 (i2 : Int), elP lv (((i2 : Int)).toNat * 1), (rs.getD i2 crow0).v, .bool true, .bool true, .bool false] (by kernel_rfl) rfl ?_ ?_
       ·
        refine ⟨?_, ?_, ?_, ?_, ?_, ?_, ?_, ?_, ?_, ?_, ?_, ?_, ?_, ?_, ?_, ?_, ?_, ?_, ?_, ?_, ?_, ?_, ?_, trivial⟩
        · exact .inl ⟨rfl, zaj (zap rfl) rfl⟩
        · exact .inl ⟨rfl, zaj (zap rfl) rfl⟩
        · exact .inl ⟨rfl, zaj (zal (s := 1) rfl Try.underlying41 (by kernel_rfl) rfl rfl (zas 2 rfl) (by omega) (by omega)) rfl⟩
        · exact .inl ⟨rfl, zaj (zam (u := (rs.getD k2 crow0).v) rfl (by kernel_rfl) rfl (zas 2 rfl) (zbz crowC (fun r => r.v) (fun _ => rfl) rs crow0 (show k2 < _ by omega))) rfl⟩
        · exact .inl ⟨rfl, zaj (zbo rfl Try.underlying26 rfl (fun w hm => ((hps w (hm.holds _ (zcl (i := 1) rfl))).at (k := k2) (by omega)))) rfl⟩
        · exact .inl ⟨rfl, zaj (zap rfl) rfl⟩
        · exact .inl ⟨rfl, zaj (zap rfl) rfl⟩
        · exact .inl ⟨rfl, zaj (zal (s := 1) rfl Try.underlying41 (by kernel_rfl) rfl rfl (zas 2 rfl) (by omega) (by omega)) rfl⟩
        · exact .inl ⟨rfl, zaj (zam (u := (rs.getD i2 crow0).v) rfl (by kernel_rfl) rfl (zas 2 rfl) (zbz crowC (fun r => r.v) (fun _ => rfl) rs crow0 (show i2 < _ by omega))) rfl⟩
        · exact .inl ⟨rfl, zaj (zbo rfl Try.underlying26 rfl (fun w hm => ((hps w (hm.holds _ (zcl (i := 1) rfl))).at (k := i2) (by omega)))) rfl⟩
        · exact .inl ⟨rfl, zdg (zcq rfl rfl rfl rfl) hb20⟩
        · exact .inl ⟨rfl, zaj (zap rfl) rfl⟩
        · exact .inl ⟨rfl, zaj (zap rfl) rfl⟩
        · exact .inl ⟨rfl, zaj (zap rfl) rfl⟩
        · exact .inl ⟨rfl, zaj (zal (s := 1) rfl Try.underlying41 (by kernel_rfl) rfl rfl (zas 2 rfl) (by omega) (by omega)) rfl⟩
        · exact .inl ⟨rfl, zaj (zam (u := (rs.getD k2 crow0).v) rfl (by kernel_rfl) rfl (zas 2 rfl) (zbz crowC (fun r => r.v) (fun _ => rfl) rs crow0 (show k2 < _ by omega))) rfl⟩
        · exact .inl ⟨rfl, zaj (zap rfl) rfl⟩
        · exact .inl ⟨rfl, zaj (zap rfl) rfl⟩
        · exact .inl ⟨rfl, zaj (zal (s := 1) rfl Try.underlying41 (by kernel_rfl) rfl rfl (zas 2 rfl) (by omega) (by omega)) rfl⟩
        · exact .inl ⟨rfl, zaj (zam (u := (rs.getD i2 crow0).v) rfl (by kernel_rfl) rfl (zas 2 rfl) (zbz crowC (fun r => r.v) (fun _ => rfl) rs crow0 (show i2 < _ by omega))) rfl⟩
        · exact .inl ⟨rfl, rq_cb (zba (by kernel_rfl) rfl (fun w hm => zbk (l13Within_ans ((rs.getD k2 crow0).xs) ((rs.getD i2 crow0).xs) _ _ w ((fun w hm => ((hps w (hm.holds _ (zcl (i := 1) rfl))).at (k := k2) (by omega))) w hm) ((fun w hm => ((hps w (hm.holds _ (zcl (i := 1) rfl))).at (k := i2) (by omega))) w hm) (by omega)))) hb21⟩
        · exact .inl ⟨rfl, zaj (zap rfl) rfl⟩
        exact .inl ⟨rfl, zaj (zap rfl) rfl⟩
       refine zac [85, 60, 52, 18, 13, 12, 11, 10, 5, 4, 1, 0] rfl ?_
       simp only [List.drop_succ_cons, List.drop_zero]
       refine zad 1 rfl (zac [60, 52, 18, 13, 12, 11, 10, 5, 4, 1, 0] rfl (zae (zai (zaa (zab ?_)))))
       refine zad 1 rfl (hl_v rfl rfl rfl (zbj rfl rfl rfl (by constructor <;> omega)) (zad 1 rfl (zac [60, 52, 18, 13, 12, 11, 10, 5, 4, 1, 0] rfl (zae ?_))))
       exact zcu (k2 + 1) false (by omega) (by omega) (zan [52, 18, 13, 12, 11, 10, 5, 4, 1, 0] rfl) ((.cons_cons _ (.cons_cons _ (.cons_cons _ .slnil))))
      have h4i := h4 _ (zcp (es := rs) (i := i2) (d := crow0) (by omega))
      have h4k := h4 _ (zcp (es := rs) (i := k2) (d := crow0) (by omega))
      refine zca 23 [[], [], [0, 1], [2], [3], [], [], [5, 6], [7], [8], [4, 9], [10], [11], [11], [11, 12, 13], [11, 14], [11], [11], [11, 16, 17], [11, 18], [11, 15, 19], [11, 20], [21]] [63, 64, 65, 66, 67, 68, 69, 70, 71, 72, 73, 74, 75, 76, 77, 78, 79, 80, 81, 82, 83, 84, 85] [lv, .int .i64 (k2 : Int), elP lv (((k2 : Int)).toNat * 1), (rs.getD k2 crow0).v, .int .i64 (((rs.getD k2 crow0).xs).length : Int), lv, .int .i64 (i2 : Int), elP lv (((i2 : Int)).toNat * 1), (rs.getD i2 crow0).v, .int .i64 (((rs.getD i2 crow0).xs).length : Int), .bool true, .bool true, lv, .int .i64 (k2 : Int), elP lv (((k2 : Int)).toNat * 1), (rs.getD k2 crow0).v, lv, .int .i64 (i2 : Int), elP lv (((i2 : Int)).toNat * 1), (rs.getD i2 crow0).v, .bool false, .bool false, .bool true] (by kernel_rfl) rfl ?_ ?_
      ·
       refine ⟨?_, ?_, ?_, ?_, ?_, ?_, ?_, ?_, ?_, ?_, ?_, ?_, ?_, ?_, ?_, ?_, ?_, ?_, ?_, ?_, ?_, ?_, ?_, trivial⟩
       · exact .inl ⟨rfl, zaj (zap rfl) rfl⟩
       · exact .inl ⟨rfl, zaj (zap rfl) rfl⟩
       · exact .inl ⟨rfl, zaj (zal (s := 1) rfl Try.underlying41 (by kernel_rfl) rfl rfl (zas 2 rfl) (by omega) (by omega)) rfl⟩
       · exact .inl ⟨rfl, zaj (zam (u := (rs.getD k2 crow0).v) rfl (by kernel_rfl) rfl (zas 2 rfl) (zbz crowC (fun r => r.v) (fun _ => rfl) rs crow0 (show k2 < _ by omega))) rfl⟩
       · exact .inl ⟨rfl, zaj (zbo rfl Try.underlying26 rfl (fun w hm => ((hps w (hm.holds _ (zcl (i := 1) rfl))).at (k := k2) (by omega)))) rfl⟩
       · exact .inl ⟨rfl, zaj (zap rfl) rfl⟩
       · exact .inl ⟨rfl, zaj (zap rfl) rfl⟩
       · exact .inl ⟨rfl, zaj (zal (s := 1) rfl Try.underlying41 (by kernel_rfl) rfl rfl (zas 2 rfl) (by omega) (by omega)) rfl⟩
       · exact .inl ⟨rfl, zaj (zam (u := (rs.getD i2 crow0).v) rfl (by kernel_rfl) rfl (zas 2 rfl) (zbz crowC (fun r => r.v) (fun _ => rfl) rs crow0 (show i2 < _ by omega))) rfl⟩
       · exact .inl ⟨rfl, zaj (zbo rfl Try.underlying26 rfl (fun w hm => ((hps w (hm.holds _ (zcl (i := 1) rfl))).at (k := i2) (by omega)))) rfl⟩
       · exact .inl ⟨rfl, zdg (zcq rfl rfl rfl rfl) hb20⟩
       · exact .inl ⟨rfl, zaj (zap rfl) rfl⟩
       · exact .inl ⟨rfl, zaj (zap rfl) rfl⟩
       · exact .inl ⟨rfl, zaj (zap rfl) rfl⟩
       · exact .inl ⟨rfl, zaj (zal (s := 1) rfl Try.underlying41 (by kernel_rfl) rfl rfl (zas 2 rfl) (by omega) (by omega)) rfl⟩
       · exact .inl ⟨rfl, zaj (zam (u := (rs.getD k2 crow0).v) rfl (by kernel_rfl) rfl (zas 2 rfl) (zbz crowC (fun r => r.v) (fun _ => rfl) rs crow0 (show k2 < _ by omega))) rfl⟩
       · exact .inl ⟨rfl, zaj (zap rfl) rfl⟩
       · exact .inl ⟨rfl, zaj (zap rfl) rfl⟩
       · exact .inl ⟨rfl, zaj (zal (s := 1) rfl Try.underlying41 (by kernel_rfl) rfl rfl (zas 2 rfl) (by omega) (by omega)) rfl⟩
       · exact .inl ⟨rfl, zaj (zam (u := (rs.getD i2 crow0).v) rfl (by kernel_rfl) rfl (zas 2 rfl) (zbz crowC (fun r => r.v) (fun _ => rfl) rs crow0 (show i2 < _ by omega))) rfl⟩
       · exact .inl ⟨rfl, rq_cb (zba (by kernel_rfl) rfl (fun w hm => zbk (l13Within_ans ((rs.getD k2 crow0).xs) ((rs.getD i2 crow0).xs) _ _ w ((fun w hm => ((hps w (hm.holds _ (zcl (i := 1) rfl))).at (k := k2) (by omega))) w hm) ((fun w hm => ((hps w (hm.holds _ (zcl (i := 1) rfl))).at (k := i2) (by omega))) w hm) (by omega)))) hb21⟩
       · exact .inl ⟨rfl, zaj (zap rfl) rfl⟩
       exact .inl ⟨rfl, zaj (zap rfl) rfl⟩
      refine zac [85, 60, 52, 18, 13, 12, 11, 10, 5, 4, 1, 0] rfl ?_
      simp only [List.drop_succ_cons, List.drop_zero]
      refine zad 1 rfl (zac [60, 52, 18, 13, 12, 11, 10, 5, 4, 1, 0] rfl (zae (zai (zaa (zab ?_)))))
      refine zad 1 rfl (hl_v rfl rfl rfl (zbj rfl rfl rfl (by constructor <;> omega)) (zad 1 rfl (zac [60, 52, 18, 13, 12, 11, 10, 5, 4, 1, 0] rfl (zae ?_))))
      exact zcu (k2 + 1) true (by omega) (by omega) (zan [52, 18, 13, 12, 11, 10, 5, 4, 1, 0] rfl) ((.cons_cons _ (.cons_cons _ (.cons_cons _ .slnil))))
     have hb20p : ¬ ((((rs.getD k2 crow0).xs).length : Int) < (((rs.getD i2 crow0).xs).length : Int)) := of_decide_eq_false hb20
     have h4i := h4 _ (zcp (es := rs) (i := i2) (d := crow0) (by omega))
     have h4k := h4 _ (zcp (es := rs) (i := k2) (d := crow0) (by omega))
     refine zca 23 [[], [], [0, 1], [2], [3], [], [], [5, 6], [7], [8], [4, 9], [10], [11], [11], [11], [11], [11], [11], [11], [11], [11], [11, 20], [21]] [63, 64, 65, 66, 67, 68, 69, 70, 71, 72, 73, 74, 75, 76, 77, 78, 79, 80, 81, 82, 83, 84, 85] [lv, .int .i64 (k2 : Int), elP lv (((k2 : Int)).toNat * 1), (rs.getD k2 crow0).v, .int .i64 (((rs.getD k2 crow0).xs).length : Int), lv, .int .i64 (i2 : Int), elP lv (((i2 : Int)).toNat * 1), (rs.getD i2 crow0).v, .int .i64 (((rs.getD i2 crow0).xs).length : Int), .bool false, .bool false, undef, undef, undef, undef, undef, undef, undef, undef, undef, .bool false, .bool true] (by kernel_rfl) rfl ?_ ?_
     ·
      refine ⟨?_, ?_, ?_, ?_, ?_, ?_, ?_, ?_, ?_, ?_, ?_, ?_, ?_, ?_, ?_, ?_, ?_, ?_, ?_, ?_, ?_, ?_, ?_, trivial⟩
      · exact .inl ⟨rfl, zaj (zap rfl) rfl⟩
      · exact .inl ⟨rfl, zaj (zap rfl) rfl⟩
      · exact .inl ⟨rfl, zaj (zal (s := 1) rfl Try.underlying41 (by kernel_rfl) rfl rfl (zas 2 rfl) (by omega) (by omega)) rfl⟩
      · exact .inl ⟨rfl, zaj (zam (u := (rs.getD k2 crow0).v) rfl (by kernel_rfl) rfl (zas 2 rfl) (zbz crowC (fun r => r.v) (fun _ => rfl) rs crow0 (show k2 < _ by omega))) rfl⟩
      · exact .inl ⟨rfl, zaj (zbo rfl Try.underlying26 rfl (fun w hm => ((hps w (hm.holds _ (zcl (i := 1) rfl))).at (k := k2) (by omega)))) rfl⟩
      · exact .inl ⟨rfl, zaj (zap rfl) rfl⟩
      · exact .inl ⟨rfl, zaj (zap rfl) rfl⟩
      · exact .inl ⟨rfl, zaj (zal (s := 1) rfl Try.underlying41 (by kernel_rfl) rfl rfl (zas 2 rfl) (by omega) (by omega)) rfl⟩
      · exact .inl ⟨rfl, zaj (zam (u := (rs.getD i2 crow0).v) rfl (by kernel_rfl) rfl (zas 2 rfl) (zbz crowC (fun r => r.v) (fun _ => rfl) rs crow0 (show i2 < _ by omega))) rfl⟩
      · exact .inl ⟨rfl, zaj (zbo rfl Try.underlying26 rfl (fun w hm => ((hps w (hm.holds _ (zcl (i := 1) rfl))).at (k := i2) (by omega)))) rfl⟩
      · exact .inl ⟨rfl, zdg (zcq rfl rfl rfl rfl) hb20⟩
      · exact .inl ⟨rfl, zaj (zap rfl) rfl⟩
      · exact .inr ⟨rfl, rfl⟩
      · exact .inr ⟨rfl, rfl⟩
      · exact .inr ⟨rfl, rfl⟩
      · exact .inr ⟨rfl, rfl⟩
      · exact .inr ⟨rfl, rfl⟩
      · exact .inr ⟨rfl, rfl⟩
      · exact .inr ⟨rfl, rfl⟩
      · exact .inr ⟨rfl, rfl⟩
      · exact .inr ⟨rfl, rfl⟩
      · exact .inl ⟨rfl, zaj (zap rfl) rfl⟩
      exact .inl ⟨rfl, zaj (zap rfl) rfl⟩
     refine zac [85, 60, 52, 18, 13, 12, 11, 10, 5, 4, 1, 0] rfl ?_
     simp only [List.drop_succ_cons, List.drop_zero]
     refine zad 1 rfl (zac [60, 52, 18, 13, 12, 11, 10, 5, 4, 1, 0] rfl (zae (zai (zaa (zab ?_)))))
     refine zad 1 rfl (hl_v rfl rfl rfl (zbj rfl rfl rfl (by constructor <;> omega)) (zad 1 rfl (zac [60, 52, 18, 13, 12, 11, 10, 5, 4, 1, 0] rfl (zae ?_))))
     exact zcu (k2 + 1) true (by omega) (by omega) (zan [52, 18, 13, 12, 11, 10, 5, 4, 1, 0] rfl) ((.cons_cons _ (.cons_cons _ (.cons_cons _ .slnil))))
    refine zad 1 rfl (zac [60, 52, 18, 13, 12, 11, 10, 5, 4, 1, 0] rfl (zae (zaa (zaq rfl ?_))))
    refine zbp ?_
    refine zah (zah ?_)
    refine zav ?_
    refine zaa (zaf (zab (hl_v rfl rfl rfl (zap rfl) ?_)))
    refine zck (fun h22 => absurd ((h19).symm.trans h22) (by decide)) (fun h22 => ?_)
    refine zac [86, 60, 52, 18, 13, 12, 11, 10, 5, 4, 1, 0] rfl (zae (zaa (zaq rfl (zaz (zai ?_)))))
    refine zaa (zab (zad 1 rfl (hl_v rfl rfl rfl (zbj rfl rfl rfl (by constructor <;> omega)) (zad 1 rfl (zac [86, 60, 52, 18, 13, 12, 11, 10, 5, 4, 1, 0] rfl ?_)))))
    refine zae ?_
    exact zce (i2 + 1) qs ov ⟨by omega, by omega, hqm⟩ (by omega) (zan [18, 11, 10, 5, 4, 1, 0] rfl) ((.cons_cons _ (.cons_cons _ (.cons_cons _ .slnil))))
   refine zad 3 rfl (zac [60, 52, 18, 13, 12, 11, 10, 5, 4, 1, 0] rfl (zae (zaa (zaq rfl ?_))))
   refine zbp ?_
   refine zah (zah ?_)
   refine zav ?_
   refine zaa (zaf (zab (hl_v rfl rfl rfl (zap rfl) ?_)))
   refine zck (fun h23 => ?_) (fun h23 => ?_)
   ·
    refine zac [86, 60, 52, 18, 13, 12, 11, 10, 5, 4, 1, 0] rfl (zae (zaa (zbb rfl (zab (zad 3 rfl ?_)))))
    refine hl_v rfl rfl rfl (zal (s := 1) rfl Try.underlying41 (by kernel_rfl) rfl rfl (zas 2 rfl) (by omega) (by omega)) ?_
    refine hl_v rfl rfl rfl (zam (u := (rs.getD i2 crow0).v) rfl (by kernel_rfl) rfl (zas 2 rfl) (zbz crowC (fun r => r.v) (fun _ => rfl) rs crow0 (show i2 < _ by omega))) ?_
    refine hl_know (fun w hm => ((hps w (hm.holds _ (zcl (i := 1) rfl))).at (k := i2) (by omega)).one') (fun hov => ?_)
    refine zbr rfl rfl rfl (zdx rfl Try.underlying41 (by kernel_rfl) rfl hov) ?_
    intro g24
    refine zco (i := 1) (z := .slice none 0 0) (bytes := 24) rfl rfl rfl rfl Try.underlying41 (by kernel_rfl) (by kernel_rfl) rfl rfl rfl (zas 0 rfl) (fun q hq => by rw [List.mem_singleton] at hq; subst hq; exact hov) (by first | omega | (simp only [List.length_append, List.length_cons, List.length_nil]; omega)) (zcb qs [(rs.getD i2 crow0)]) (zdc crowC qs (rs.getD i2 crow0) _ rfl) (fun _ => rfl) ?_
    intro v25
    refine zad 1 rfl (zac [86, 60, 52, 18, 13, 12, 11, 10, 5, 4, 1, 0] rfl (zae (zai (zaa (zab ?_)))))
    refine zad 1 rfl (hl_v rfl rfl rfl (zbj rfl rfl rfl (by constructor <;> omega)) (zad 1 rfl (zac [86, 60, 52, 18, 13, 12, 11, 10, 5, 4, 1, 0] rfl (zae ?_))))
    exact zce (i2 + 1) (qs ++ [(rs.getD i2 crow0)]) v25 ⟨by omega, by rw [List.length_append, List.length_singleton]; omega, fun q hq => (List.mem_append.1 hq).elim (hqm q) (fun h => by rw [List.mem_singleton] at h; subst h; exact zcp (by omega))⟩ (by omega) (zan [18, 11, 10, 5, 4, 1, 0] rfl) ((.cons _ (.cons_cons _ (.cons_cons _ (.cons_cons _ .slnil)))))
   refine zac [86, 60, 52, 18, 13, 12, 11, 10, 5, 4, 1, 0] rfl (zae (zaa (zaq rfl (zaz (zai ?_)))))
   refine zaa (zab (zad 1 rfl (hl_v rfl rfl rfl (zbj rfl rfl rfl (by constructor <;> omega)) (zad 1 rfl (zac [86, 60, 52, 18, 13, 12, 11, 10, 5, 4, 1, 0] rfl ?_)))))
   refine zae ?_
   exact zce (i2 + 1) qs ov ⟨by omega, by omega, hqm⟩ (by omega) (zan [18, 11, 10, 5, 4, 1, 0] rfl) ((.cons_cons _ (.cons_cons _ (.cons_cons _ .slnil))))
  refine zad 1 rfl (zac [52, 18, 11, 10, 5, 4, 1, 0] rfl (zae (zaa (zaq rfl ?_))))
  refine zbp ?_
  refine zah (zah ?_)
  refine zav ?_
  refine zaa (zaf (zab (zad 2 rfl (zac [52, 18, 11, 10, 5, 4, 1, 0] rfl (zae ?_)))))
  refine zaa ?_
  refine zbl ?_
  refine zbu 3 [1, 0] rfl rfl (by decide) ?_
  exact zdn (post := [rowE 26 1 ov qs.length (qs.flatMap crowC), bigE ps]) rfl rfl (.refl _) ⟨_, qs, rfl, fun w hw => (hps w hw).sub hqm, hql, fun r hr => h4 r (hqm r hr)⟩
 refine zad 2 rfl (zbi rfl rfl rfl (zbi rfl rfl rfl (zad 1 rfl (zac [52, 18, 11, 10, 5, 4, 1, 0] rfl (zae ?_)))))
 refine zaa (zaq rfl ?_)
 refine zbp ?_
 refine zah (zah ?_)
 refine zav ?_
 refine zaa (zaf (zab (zad 2 rfl (zac [52, 18, 11, 10, 5, 4, 1, 0] rfl (zae ?_)))))
 refine zaa ?_
 refine zbl ?_
 refine zbu 3 [1, 0] rfl rfl (by decide) ?_
 exact zdn (post := [rowE 26 1 ov qs.length (qs.flatMap crowC), bigE ps]) rfl rfl (.refl _) ⟨_, qs, rfl, fun w hw => (hps w hw).sub hqm, hql, fun r hr => h4 r (hqm r hr)⟩
theorem rds_cl_of' {w : World} {v : Value} {rs : List CRow} (h1 : RdsW w v 1 rs.length (rs.flatMap crowC)) (h2 : RdsAll w rs) : RdsCl w v rs := ⟨h1, h2⟩
set_option maxHeartbeats 4000000 in
set_option maxRecDepth 100000 in
theorem l13All_ret (n : Nt) (node : Int) (w : World) (hr : RdsNt w n) (hn : NtOk n) (hnd : 0 ≤ node ∧ node < n.cnt) :
   Calls Try.prog 98 #[.agg #[.int .i64 n.ins, n.sv, n.av, n.ov], .int .i64 node] w (Ret w (fun u_ p_ => ∃ (ps : List HP) (cs : List CGrp), p_ = [bigE ps] ∧ (∀ w, (bigE ps).holds w → RdsW w u_ 1 cs.length (cs.flatMap cgC) ∧ RdsGrps w cs) ∧ (cs.length : Int) = node + 1 ∧ GrpsOk cs)) := by
 have hi0 := hn.i0
 have hi1 := hn.i1
 have hs1 := hn.s1
 have ha1 := hn.a1
 have ho1 := hn.o1
 have hcnt : n.cnt = 1 + n.ins + n.ss.length + n.gs.length := rfl
 have hfst : n.fst = 1 + n.ins + n.ss.length := rfl
 refine zbq (N := 52) (args := [.agg #[.int .i64 n.ins, n.sv, n.av, n.ov], .int .i64 node]) Try.func98 rfl rfl ?_
 refine zbt _ [1, 0] rfl (zaf (zab ?_))
 refine zci rfl rfl rfl (zdd rfl rfl) ?_
 intro b1
 refine zad 1 rfl (zac [4, 2, 1, 0] rfl (zae (zaa (zaf (zab ?_)))))
 refine zbr rfl rfl rfl (zcr (s := 1) rfl Try.underlying26 (by kernel_rfl)) ?_
 intro g2
 refine zbr rfl rfl rfl (zbe (z := .slice none 0 0) (s := 1) (cs := [.slice (some ⟨g2, 0, none⟩) 0 0]) rfl Try.underlying41 (by kernel_rfl) (by decide) rfl (by kernel_rfl) rfl) ?_
 intro g3
 refine zbr rfl rfl rfl (zbe (z := .slice none 0 0) (s := 1) (cs := [.slice (some ⟨g3, 0, none⟩) 1 1]) rfl Try.underlying139 (by kernel_rfl) (by decide) rfl (by kernel_rfl) rfl) ?_
 intro g4
 refine zad 1 rfl (zac [5, 4, 2, 1, 0] rfl (zae (zaa (zaf (zaf ?_)))))
 refine zab (zad 1 rfl (zac [6, 5, 4, 2, 1, 0] rfl (zae (zaa (zax ?_)))))
 refine zfh 4 [3, 0, 2, 1] rfl rfl (by decide) ?_
 refine hc_pool 2 rfl ?_
 refine zdl (α := Nat) (β := List CGrp) (γ := Value) (δ := List HP) (fun k cs gv ps => [bigE ps, rowE 41 1 gv cs.length (cs.flatMap cgC), boxE b1 #[.int .i64 n.ins, n.sv, n.av, n.ov] 101]) (fun k cs gv ps => [(0, .agg #[.int .i64 n.ins, n.sv, n.av, n.ov]), (1, .int .i64 node), (2, .pointer (some ⟨b1, 0, none⟩)), (4, .slice none 0 0), (5, gv), (6, .int .i64 (k : Int))]) (fun k cs gv ps => 1 ≤ k ∧ (k : Int) ≤ node + 1 ∧ cs.length = k ∧ GrpsOk cs ∧ ∀ w, (bigE ps).holds w → RdsGrps w cs) (fun k cs gv ps => node.toNat + 1 - k) 1 [CGrp.mk (.slice (some ⟨g3, 0, none⟩) 1 1) [CRow.mk (.slice (some ⟨g2, 0, none⟩) 0 0) []]] _ [rowE 26 1 (.slice (some ⟨g3, 0, none⟩) 1 1) 1 ([.slice (some ⟨g2, 0, none⟩) 0 0]), rowE 3 1 (.slice (some ⟨g2, 0, none⟩) 0 0) 0 ([])] ⟨by omega, by omega, rfl, (fun c hc => by rw [List.mem_singleton] at hc; subst hc; exact GrpOk.one (by simp)), fun w hw c hc => by rw [List.mem_singleton] at hc; subst hc; exact rds_cl_of' (zcc (zbn hw List.mem_cons_self)) (fun r hr => by rw [List.mem_singleton] at hr; subst hr; exact zcc (zbn hw (List.mem_cons_of_mem _ List.mem_cons_self)))⟩ (zan [6, 5, 4, 2, 1, 0] rfl) ((.cons_cons _ (.cons_cons _ (.cons_cons _ .slnil)))) ?_
 intro k cs gv ps hi5
 obtain ⟨hk1, hk, hcl, hg, hs⟩ := hi5
 refine zaf (zaf (zab (zad 2 rfl ?_)))
 refine hl_leq rfl rfl rfl rfl rfl rfl (fun h6 => ?_) (fun h6 => ?_)
 ·
  refine zac [14, 6, 5, 4, 2, 1, 0] rfl (zae (zaa (zbb rfl (zaz (zaa ?_)))))
  refine zaf (zax (zaf (zab ?_)))
  refine zbr rfl rfl rfl (zcr (s := 1) rfl Try.underlying41 (by kernel_rfl)) ?_
  intro g7
  refine zad 1 rfl (zac [14, 7, 6, 5, 4, 2, 1, 0] rfl (zae (zaa (zaf (zaf ?_)))))
  refine zab (zad 1 rfl (hl_v rfl rfl rfl (zbc (cs := [.int .i64 n.ins, n.sv, n.av, n.ov]) rfl (by kernel_rfl) (by kernel_rfl) rfl rfl (zay 3 rfl 0 rfl)) ?_))
  refine zbm rfl rfl rfl (zba (by kernel_rfl) rfl (fun w hm => zbk (zbv n w (hr.below hm.bel) hn))) ?_
  refine zey rfl rfl rfl rfl rfl rfl (fun h8 => ?_) (fun h8 => ?_)
  ·
   refine zac [21, 14, 7, 6, 5, 4, 2, 1, 0] rfl (zae (zaa (zbb rfl (zaf ?_))))
   have hani := hn.an ((k : Int) - n.fst).toNat (by omega)
   unfold LtOk at hani
   have hA := hg.at (k := ((n.gs.getD (((k : Int) - n.fst).toNat) an0).a / 2).toNat) (by omega)
   have hB := hg.at (k := ((n.gs.getD (((k : Int) - n.fst).toNat) an0).b / 2).toNat) (by omega)
   have hA8 := hA.len
   have hB8 := hB.len
   refine zdj (by kernel_rfl) 9 [0, 1, 2, 3, 4, 5, 6, 7, 8] (List.take 9 _) (List.drop 9 _) [[], [0], [], [], [3], [2, 4], [1, 5], [6], []] [22, 23, 24, 25, 26, 27, 28, 29, 8] (fun i_ vs_ v_ p_ => match i_ with | 0 => v_ = .pointer (some ⟨b1, 0 + 2, none⟩) ∧ p_ = [] | 1 => v_ = n.av ∧ p_ = [] | 2 => v_ = .int .i64 (k : Int) ∧ p_ = [] | 3 => v_ = .agg #[.int .i64 n.ins, n.sv, n.av, n.ov] ∧ p_ = [] | 4 => v_ = .int .i64 n.fst ∧ p_ = [] | 5 => v_ = .int .i64 ((k : Int) - n.fst) ∧ p_ = [] | 6 => v_ = elP n.av (((k : Int) - n.fst).toNat * 2) ∧ p_ = [] | 7 => v_ = .agg #[.int .i64 ((n.gs.getD (((k : Int) - n.fst).toNat) an0).a), .int .i64 ((n.gs.getD (((k : Int) - n.fst).toNat) an0).b)] ∧ p_ = [] | 8 => IsBox #[.int .i64 0, .int .i64 0] 124 v_ p_ | _ => True) (List.take_append_drop 9 _).symm (by kernel_rfl) (by kernel_rfl) rfl rfl ?_ ?_
   ·
    refine ⟨?_, ?_, ?_, ?_, ?_, ?_, ?_, ?_, ?_, trivial⟩
    ·
     intro vf pf hR
     refine Or.inl ⟨rfl, ?_⟩
     refine zbh (sk 2 rfl (zag _)) ?_
     exact rq_v (zat (k0 := 2) rfl (by kernel_rfl) rfl)
    ·
     intro vf pf hR
     have e0 : (vf 0) = .pointer (some ⟨b1, 0 + 2, none⟩) ∧ (pf 0) = [] := hR 0 (by decide)
     refine Or.inl ⟨rfl, ?_⟩
     refine zau (sk 22 (congrArg some e0.1) (zag _)) (List.sublist_append_right _ _) ?_
     exact rq_v (zbd rfl (by kernel_rfl) rfl (zaw 3 rfl rfl))
    ·
     intro vf pf hR
     refine Or.inl ⟨rfl, ?_⟩
     refine zbh (sk 6 rfl (zag _)) ?_
     exact rq_v (zap rfl)
    ·
     intro vf pf hR
     refine Or.inl ⟨rfl, ?_⟩
     refine zau (sk 2 rfl (zag _)) (List.sublist_append_right _ _) ?_
     exact rq_v (zbc (cs := [.int .i64 n.ins, n.sv, n.av, n.ov]) rfl (by kernel_rfl) (by kernel_rfl) rfl rfl (zay 3 rfl 0 rfl))
    ·
     intro vf pf hR
     have e3 : (vf 3) = .agg #[.int .i64 n.ins, n.sv, n.av, n.ov] ∧ (pf 3) = [] := hR 3 (by decide)
     refine Or.inl ⟨rfl, ?_⟩
     refine zau (sk 25 (congrArg some e3.1) (zag _)) (List.sublist_append_right _ _) ?_
     exact (zba (by kernel_rfl) rfl (fun w hm => zbk (zbv n w (hr.below hm.bel) hn)))
    ·
     intro vf pf hR
     have e2 : (vf 2) = .int .i64 (k : Int) ∧ (pf 2) = [] := hR 2 (by decide)
     have e4 : (vf 4) = .int .i64 n.fst ∧ (pf 4) = [] := hR 4 (by decide)
     refine Or.inl ⟨rfl, ?_⟩
     refine zbh (sk 24 (congrArg some e2.1) (sk 26 (congrArg some e4.1) (zag _))) ?_
     exact rq_v (zdb rfl rfl rfl (by constructor <;> omega))
    ·
     intro vf pf hR
     have e1 : (vf 1) = n.av ∧ (pf 1) = [] := hR 1 (by decide)
     have e5 : (vf 5) = .int .i64 ((k : Int) - n.fst) ∧ (pf 5) = [] := hR 5 (by decide)
     refine Or.inl ⟨rfl, ?_⟩
     refine zau (sk 23 (congrArg some e1.1) (sk 27 (congrArg some e5.1) (zag _))) (List.sublist_append_right _ _) ?_
     exact rq_v (zal (s := 2) rfl Try.underlying99 (by kernel_rfl) rfl rfl (zak hr.an) (by omega) (by omega))
    ·
     intro vf pf hR
     have e6 : (vf 6) = elP n.av (((k : Int) - n.fst).toNat * 2) ∧ (pf 6) = [] := hR 6 (by decide)
     refine Or.inl ⟨rfl, ?_⟩
     refine zau (sk 28 (congrArg some e6.1) (zag _)) (List.sublist_append_right _ _) ?_
     exact rq_v (zdr (us := [.int .i64 ((n.gs.getD (((k : Int) - n.fst).toNat) an0).a), .int .i64 ((n.gs.getD (((k : Int) - n.fst).toNat) an0).b)]) rfl (by kernel_rfl) (by kernel_rfl) rfl (zak hr.an) (by omega) rfl (zel anC 2 (fun _ => rfl) n.gs an0 (show ((k : Int) - n.fst).toNat < _ by omega) rfl))
    intro vf pf hR
    refine Or.inl ⟨rfl, ?_⟩
    refine zau (zag _) (List.sublist_append_right _ _) ?_
    exact zcj (z := .agg #[.int .i64 0, .int .i64 0]) rfl (by kernel_rfl)
   intro vf pf hR
   have e7 : (vf 7) = .agg #[.int .i64 ((n.gs.getD (((k : Int) - n.fst).toNat) an0).a), .int .i64 ((n.gs.getD (((k : Int) - n.fst).toNat) an0).b)] ∧ (pf 7) = [] := hR 7 (by decide)
   have e8 : IsBox #[.int .i64 0, .int .i64 0] 124 (vf 8) (pf 8) := hR 8 (by decide)
   obtain ⟨b9, vE8, pE8⟩ := e8
   have q0 : (vf 0) = .pointer (some ⟨b1, 0 + 2, none⟩) ∧ (pf 0) = [] := hR 0 (by decide)
   have q1 : (vf 1) = n.av ∧ (pf 1) = [] := hR 1 (by decide)
   have q2 : (vf 2) = .int .i64 (k : Int) ∧ (pf 2) = [] := hR 2 (by decide)
   have q3 : (vf 3) = .agg #[.int .i64 n.ins, n.sv, n.av, n.ov] ∧ (pf 3) = [] := hR 3 (by decide)
   have q4 : (vf 4) = .int .i64 n.fst ∧ (pf 4) = [] := hR 4 (by decide)
   have q5 : (vf 5) = .int .i64 ((k : Int) - n.fst) ∧ (pf 5) = [] := hR 5 (by decide)
   have q6 : (vf 6) = elP n.av (((k : Int) - n.fst).toNat * 2) ∧ (pf 6) = [] := hR 6 (by decide)
   have q7 : (vf 7) = .agg #[.int .i64 ((n.gs.getD (((k : Int) - n.fst).toNat) an0).a), .int .i64 ((n.gs.getD (((k : Int) - n.fst).toNat) an0).b)] ∧ (pf 7) = [] := hR 7 (by decide)
   refine zcs (sk 0 rfl (sk 1 rfl (sk 2 rfl (sk 4 rfl (sk 5 rfl (sk 6 rfl (sk 7 rfl (sk 8 (congrArg some vE8) (sk 14 rfl (sk 21 rfl (sk 29 (congrArg some e7.1) (zag _)))))))))))) (by simp only [pE8, vE8, q0.2, q1.2, q2.2, q3.2, q4.2, q5.2, q6.2, q7.2, fS] <;> rfl) ?_
   simp only [List.drop_succ_cons, List.drop_zero]
   refine zcn (cs' := #[.int .i64 ((n.gs.getD (((k : Int) - n.fst).toNat) an0).a), .int .i64 ((n.gs.getD (((k : Int) - n.fst).toNat) an0).b)]) (i := 0) (off := 0) (us := [.int .i64 ((n.gs.getD (((k : Int) - n.fst).toNat) an0).a), .int .i64 ((n.gs.getD (((k : Int) - n.fst).toNat) an0).b)]) rfl rfl rfl (by kernel_rfl) rfl rfl rfl (zar rfl (zar rfl zby)) rfl rfl rfl ?_
   refine zac [21, 14, 8, 7, 6, 5, 4, 2, 1, 0] rfl (zae (zaa ?_))
   refine zdj (by kernel_rfl) 13 [0, 1, 2, 3, 4, 5, 6, 7, 8, 9, 10, 11, 12] (List.take 13 _) (List.drop 13 _) [[], [], [1], [2], [0, 3], [4], [], [], [7], [8], [6, 9], [10], [5, 11]] [30, 31, 32, 33, 34, 35, 36, 37, 38, 39, 40, 41, 42] (fun i_ vs_ v_ p_ => match i_ with | 0 => v_ = gv ∧ p_ = [] | 1 => v_ = .pointer (some ⟨b9, 0 + 0, none⟩) ∧ p_ = [] | 2 => v_ = .int .i64 ((n.gs.getD (((k : Int) - n.fst).toNat) an0).a) ∧ p_ = [] | 3 => v_ = .int .i64 (((n.gs.getD (((k : Int) - n.fst).toNat) an0).a) / 2) ∧ p_ = [] | 4 => v_ = elP gv ((((n.gs.getD (((k : Int) - n.fst).toNat) an0).a) / 2).toNat * 1) ∧ p_ = [] | 5 => v_ = (cs.getD ((((n.gs.getD (((k : Int) - n.fst).toNat) an0).a) / 2).toNat) cgrp0).v ∧ p_ = [] | 6 => v_ = gv ∧ p_ = [] | 7 => v_ = .pointer (some ⟨b9, 0 + 1, none⟩) ∧ p_ = [] | 8 => v_ = .int .i64 ((n.gs.getD (((k : Int) - n.fst).toNat) an0).b) ∧ p_ = [] | 9 => v_ = .int .i64 (((n.gs.getD (((k : Int) - n.fst).toNat) an0).b) / 2) ∧ p_ = [] | 10 => v_ = elP gv ((((n.gs.getD (((k : Int) - n.fst).toNat) an0).b) / 2).toNat * 1) ∧ p_ = [] | 11 => v_ = (cs.getD ((((n.gs.getD (((k : Int) - n.fst).toNat) an0).b) / 2).toNat) cgrp0).v ∧ p_ = [] | 12 => (fun u_ p_ => ∃ (ps : List HP) (us : List CRow), p_ = [rowE 26 1 u_ us.length (us.flatMap crowC), bigE ps] ∧ (∀ w, (bigE ps).holds w → RdsAll w us) ∧ us.length ≤ 7 ∧ ∀ r ∈ us, r.xs.length ≤ 4) v_ p_ | _ => True) (List.take_append_drop 13 _).symm (by kernel_rfl) (by kernel_rfl) rfl rfl ?_ ?_
   ·
    refine ⟨?_, ?_, ?_, ?_, ?_, ?_, ?_, ?_, ?_, ?_, ?_, ?_, ?_, trivial⟩
    ·
     intro vf pf hR
     refine Or.inl ⟨rfl, ?_⟩
     refine zbh (sk 5 rfl (zag _)) ?_
     exact rq_v (zap rfl)
    ·
     intro vf pf hR
     refine Or.inl ⟨rfl, ?_⟩
     refine zbh (sk 8 rfl (zag _)) ?_
     exact rq_v (zat (k0 := 0) rfl (by kernel_rfl) rfl)
    ·
     intro vf pf hR
     have e1 : (vf 1) = .pointer (some ⟨b9, 0 + 0, none⟩) ∧ (pf 1) = [] := hR 1 (by decide)
     refine Or.inl ⟨rfl, ?_⟩
     refine zau (sk 31 (congrArg some e1.1) (zag _)) (List.sublist_append_right _ _) ?_
     exact rq_v (zbd rfl (by kernel_rfl) rfl (zaw 0 rfl rfl))
    ·
     intro vf pf hR
     have e2 : (vf 2) = .int .i64 ((n.gs.getD (((k : Int) - n.fst).toNat) an0).a) ∧ (pf 2) = [] := hR 2 (by decide)
     refine Or.inl ⟨rfl, ?_⟩
     refine zbh (sk 32 (congrArg some e2.1) (zag _)) ?_
     exact rq_v (zee rfl rfl rfl (by refine ⟨?_, ?_, ?_⟩ <;> omega))
    ·
     intro vf pf hR
     have e0 : (vf 0) = gv ∧ (pf 0) = [] := hR 0 (by decide)
     have e3 : (vf 3) = .int .i64 (((n.gs.getD (((k : Int) - n.fst).toNat) an0).a) / 2) ∧ (pf 3) = [] := hR 3 (by decide)
     refine Or.inl ⟨rfl, ?_⟩
     refine zau (sk 30 (congrArg some e0.1) (sk 33 (congrArg some e3.1) (zag _))) (List.sublist_append_right _ _) ?_
     exact rq_v (zal (s := 1) rfl Try.underlying139 (by kernel_rfl) rfl rfl (zas 3 rfl) (by omega) (by omega))
    ·
     intro vf pf hR
     have e4 : (vf 4) = elP gv ((((n.gs.getD (((k : Int) - n.fst).toNat) an0).a) / 2).toNat * 1) ∧ (pf 4) = [] := hR 4 (by decide)
     refine Or.inl ⟨rfl, ?_⟩
     refine zau (sk 34 (congrArg some e4.1) (zag _)) (List.sublist_append_right _ _) ?_
     exact rq_v (zam (u := (cs.getD ((((n.gs.getD (((k : Int) - n.fst).toNat) an0).a) / 2).toNat) cgrp0).v) rfl (by kernel_rfl) rfl (zas 3 rfl) (zbz cgC (fun r => r.v) (fun _ => rfl) cs cgrp0 (show (((n.gs.getD (((k : Int) - n.fst).toNat) an0).a) / 2).toNat < _ by omega)))
    ·
     intro vf pf hR
     refine Or.inl ⟨rfl, ?_⟩
     refine zbh (sk 5 rfl (zag _)) ?_
     exact rq_v (zap rfl)
    ·
     intro vf pf hR
     refine Or.inl ⟨rfl, ?_⟩
     refine zbh (sk 8 rfl (zag _)) ?_
     exact rq_v (zat (k0 := 1) rfl (by kernel_rfl) rfl)
    ·
     intro vf pf hR
     have e7 : (vf 7) = .pointer (some ⟨b9, 0 + 1, none⟩) ∧ (pf 7) = [] := hR 7 (by decide)
     refine Or.inl ⟨rfl, ?_⟩
     refine zau (sk 37 (congrArg some e7.1) (zag _)) (List.sublist_append_right _ _) ?_
     exact rq_v (zbd rfl (by kernel_rfl) rfl (zaw 0 rfl rfl))
    ·
     intro vf pf hR
     have e8 : (vf 8) = .int .i64 ((n.gs.getD (((k : Int) - n.fst).toNat) an0).b) ∧ (pf 8) = [] := hR 8 (by decide)
     refine Or.inl ⟨rfl, ?_⟩
     refine zbh (sk 38 (congrArg some e8.1) (zag _)) ?_
     exact rq_v (zee rfl rfl rfl (by refine ⟨?_, ?_, ?_⟩ <;> omega))
    ·
     intro vf pf hR
     have e6 : (vf 6) = gv ∧ (pf 6) = [] := hR 6 (by decide)
     have e9 : (vf 9) = .int .i64 (((n.gs.getD (((k : Int) - n.fst).toNat) an0).b) / 2) ∧ (pf 9) = [] := hR 9 (by decide)
     refine Or.inl ⟨rfl, ?_⟩
     refine zau (sk 36 (congrArg some e6.1) (sk 39 (congrArg some e9.1) (zag _))) (List.sublist_append_right _ _) ?_
     exact rq_v (zal (s := 1) rfl Try.underlying139 (by kernel_rfl) rfl rfl (zas 3 rfl) (by omega) (by omega))
    ·
     intro vf pf hR
     have e10 : (vf 10) = elP gv ((((n.gs.getD (((k : Int) - n.fst).toNat) an0).b) / 2).toNat * 1) ∧ (pf 10) = [] := hR 10 (by decide)
     refine Or.inl ⟨rfl, ?_⟩
     refine zau (sk 40 (congrArg some e10.1) (zag _)) (List.sublist_append_right _ _) ?_
     exact rq_v (zam (u := (cs.getD ((((n.gs.getD (((k : Int) - n.fst).toNat) an0).b) / 2).toNat) cgrp0).v) rfl (by kernel_rfl) rfl (zas 3 rfl) (zbz cgC (fun r => r.v) (fun _ => rfl) cs cgrp0 (show (((n.gs.getD (((k : Int) - n.fst).toNat) an0).b) / 2).toNat < _ by omega)))
    intro vf pf hR
    have e5 : (vf 5) = (cs.getD ((((n.gs.getD (((k : Int) - n.fst).toNat) an0).a) / 2).toNat) cgrp0).v ∧ (pf 5) = [] := hR 5 (by decide)
    have e11 : (vf 11) = (cs.getD ((((n.gs.getD (((k : Int) - n.fst).toNat) an0).b) / 2).toNat) cgrp0).v ∧ (pf 11) = [] := hR 11 (by decide)
    refine Or.inl ⟨rfl, ?_⟩
    refine zau (sk 35 (congrArg some e5.1) (sk 41 (congrArg some e11.1) (zag _))) (List.sublist_append_right _ _) ?_
    exact zba (by kernel_rfl) rfl (fun w hm => l13Join_ret (cs.getD ((((n.gs.getD (((k : Int) - n.fst).toNat) an0).a) / 2).toNat) cgrp0).rs (cs.getD ((((n.gs.getD (((k : Int) - n.fst).toNat) an0).b) / 2).toNat) cgrp0).rs _ _ w ((hs w (hm.holds _ (zcl (i := 2) rfl))).at (k := ((((n.gs.getD (((k : Int) - n.fst).toNat) an0).a) / 2).toNat)) (by omega)) ((hs w (hm.holds _ (zcl (i := 2) rfl))).at (k := ((((n.gs.getD (((k : Int) - n.fst).toNat) an0).b) / 2).toNat)) (by omega)) hA.four hB.four hA8 hB8)
   intro vf pf hR
   have e12 : (fun u_ p_ => ∃ (ps : List HP) (us : List CRow), p_ = [rowE 26 1 u_ us.length (us.flatMap crowC), bigE ps] ∧ (∀ w, (bigE ps).holds w → RdsAll w us) ∧ us.length ≤ 7 ∧ ∀ r ∈ us, r.xs.length ≤ 4) (vf 12) (pf 12) := hR 12 (by decide)
   obtain ⟨v10, vE12⟩ : ∃ x, vf 12 = x := ⟨_, rfl⟩
   obtain ⟨p11, pE12⟩ : ∃ x, pf 12 = x := ⟨_, rfl⟩
   have hR12 := e12
   rw [vE12, pE12] at hR12
   obtain ⟨qs, us, rfl, hq, hul, hu4⟩ := hR12
   have q0 : (vf 0) = gv ∧ (pf 0) = [] := hR 0 (by decide)
   have q1 : (vf 1) = .pointer (some ⟨b9, 0 + 0, none⟩) ∧ (pf 1) = [] := hR 1 (by decide)
   have q2 : (vf 2) = .int .i64 ((n.gs.getD (((k : Int) - n.fst).toNat) an0).a) ∧ (pf 2) = [] := hR 2 (by decide)
   have q3 : (vf 3) = .int .i64 (((n.gs.getD (((k : Int) - n.fst).toNat) an0).a) / 2) ∧ (pf 3) = [] := hR 3 (by decide)
   have q4 : (vf 4) = elP gv ((((n.gs.getD (((k : Int) - n.fst).toNat) an0).a) / 2).toNat * 1) ∧ (pf 4) = [] := hR 4 (by decide)
   have q5 : (vf 5) = (cs.getD ((((n.gs.getD (((k : Int) - n.fst).toNat) an0).a) / 2).toNat) cgrp0).v ∧ (pf 5) = [] := hR 5 (by decide)
   have q6 : (vf 6) = gv ∧ (pf 6) = [] := hR 6 (by decide)
   have q7 : (vf 7) = .pointer (some ⟨b9, 0 + 1, none⟩) ∧ (pf 7) = [] := hR 7 (by decide)
   have q8 : (vf 8) = .int .i64 ((n.gs.getD (((k : Int) - n.fst).toNat) an0).b) ∧ (pf 8) = [] := hR 8 (by decide)
   have q9 : (vf 9) = .int .i64 (((n.gs.getD (((k : Int) - n.fst).toNat) an0).b) / 2) ∧ (pf 9) = [] := hR 9 (by decide)
   have q10 : (vf 10) = elP gv ((((n.gs.getD (((k : Int) - n.fst).toNat) an0).b) / 2).toNat * 1) ∧ (pf 10) = [] := hR 10 (by decide)
   have q11 : (vf 11) = (cs.getD ((((n.gs.getD (((k : Int) - n.fst).toNat) an0).b) / 2).toNat) cgrp0).v ∧ (pf 11) = [] := hR 11 (by decide)
   refine zcs (sk 0 rfl (sk 1 rfl (sk 2 rfl (sk 4 rfl (sk 5 rfl (sk 6 rfl (sk 7 rfl (sk 8 rfl (sk 14 rfl (sk 21 rfl (sk 42 (congrArg some vE12) (zag _)))))))))))) (by simp only [pE12, vE12, q0.2, q1.2, q2.2, q3.2, q4.2, q5.2, q6.2, q7.2, q8.2, q9.2, q10.2, q11.2, fS] <;> rfl) ?_
   simp only [List.drop_succ_cons, List.drop_zero]
   refine zad 1 rfl (zac [21, 14, 8, 7, 6, 5, 4, 2, 1, 0] rfl (zae (zaa (zab (zad 3 rfl ?_)))))
   refine zbr rfl rfl rfl (zbe (z := .int .i64 0) (s := 1) (cs := ([(k : Int)].map (Value.int .i64))) rfl Try.underlying26 (by kernel_rfl) (by decide) rfl (by kernel_rfl) rfl) ?_
   intro g13
   refine zbr rfl rfl rfl (zbe (z := .slice none 0 0) (s := 1) (cs := [.slice (some ⟨g13, 0, none⟩) 1 1]) rfl Try.underlying41 (by kernel_rfl) (by decide) rfl (by kernel_rfl) rfl) ?_
   intro g14
   refine zco (i := 2) (z := .slice none 0 0) (bytes := 24) (n' := (us ++ [CRow.mk (.slice (some ⟨g13, 0, none⟩) 1 1) [(k : Int)]]).length) (xs' := ((us ++ [CRow.mk (.slice (some ⟨g13, 0, none⟩) 1 1) [(k : Int)]]).flatMap crowC)) rfl rfl rfl rfl Try.underlying41 (by kernel_rfl) (by kernel_rfl) rfl rfl rfl (zas 0 rfl) (by simp [Value.oneCell']) (by first | omega | (simp; omega)) (zcb us [CRow.mk (.slice (some ⟨g13, 0, none⟩) 1 1) [(k : Int)]]) (by rw [List.flatMap_append]; rfl) (fun _ => rfl) ?_
   intro v15
   refine zbr rfl rfl rfl (zer rfl Try.underlying139 (by kernel_rfl) rfl (fun w hm => (zas 2 rfl w hm).one)) ?_
   intro g16
   refine zda (i := 3) rfl (fun ho17 => ?_)
   refine zco (i := 8) (z := .slice none 0 0) (bytes := 24) (n' := (cs ++ [(CGrp.mk v15 (us ++ [CRow.mk (.slice (some ⟨g13, 0, none⟩) 1 1) [(k : Int)]]))]).length) (xs' := ((cs ++ [(CGrp.mk v15 (us ++ [CRow.mk (.slice (some ⟨g13, 0, none⟩) 1 1) [(k : Int)]]))]).flatMap cgC)) rfl rfl rfl rfl Try.underlying139 (by kernel_rfl) (by kernel_rfl) rfl rfl rfl (zas 0 rfl) (fun q hq => by rw [List.mem_singleton] at hq; subst hq; exact ho17) (by omega) (zcb cs [(CGrp.mk v15 (us ++ [CRow.mk (.slice (some ⟨g13, 0, none⟩) 1 1) [(k : Int)]]))]) (by rw [List.flatMap_append]; rfl) (fun _ => rfl) ?_
   intro v18
   refine zad 1 rfl (zac [21, 14, 8, 7, 6, 5, 4, 2, 1, 0] rfl (zae (zai (zaa (zab ?_)))))
   refine zad 1 rfl (hl_v rfl rfl rfl (zbj rfl rfl rfl (by constructor <;> omega)) (zad 1 rfl (zac [21, 14, 8, 7, 6, 5, 4, 2, 1, 0] rfl (zae ?_))))
   refine zbu 10 [9, 8, 4, 2, 3, 7] rfl rfl (by decide) ?_
   refine zcz 4 rfl ?_
   exact zbx (k + 1) (cs ++ [(CGrp.mk v15 (us ++ [CRow.mk (.slice (some ⟨g13, 0, none⟩) 1 1) [(k : Int)]]))]) v18 [bigE ps, rowE 26 1 v15 ((us ++ [CRow.mk (.slice (some ⟨g13, 0, none⟩) 1 1) [(k : Int)]]).length) ((us ++ [CRow.mk (.slice (some ⟨g13, 0, none⟩) 1 1) [(k : Int)]]).flatMap crowC), rowE 3 1 (.slice (some ⟨g13, 0, none⟩) 1 1) 1 ([(k : Int)].map (Value.int .i64)), bigE qs] ⟨by omega, by omega, by rw [List.length_append, List.length_singleton]; omega, hg.app (GrpOk.more hul hu4), fun w hw => (hs w (zbn hw List.mem_cons_self)).app (rds_cl_of' (zcc (zbn hw (List.mem_cons_of_mem _ List.mem_cons_self))) (fun r hr => (List.mem_append.1 hr).elim (fun h => hq w (zbn hw (List.mem_cons_of_mem _ (List.mem_cons_of_mem _ (List.mem_cons_of_mem _ List.mem_cons_self)))) r h) (fun h => by rw [List.mem_singleton] at h; subst h; exact zcc (zbn hw (List.mem_cons_of_mem _ (List.mem_cons_of_mem _ List.mem_cons_self))))))⟩ (by omega) (zan [6, 5, 4, 2, 1, 0] rfl) ((.cons_cons _ (.cons_cons _ (.cons_cons _ .slnil))))
  refine zac [21, 14, 7, 6, 5, 4, 2, 1, 0] rfl (zae (zaa (zaq rfl (zaz (zaa ?_)))))
  refine zab (zad 3 rfl ?_)
  refine zbr rfl rfl rfl (zbe (z := .int .i64 0) (s := 1) (cs := ([(k : Int)].map (Value.int .i64))) rfl Try.underlying26 (by kernel_rfl) (by decide) rfl (by kernel_rfl) rfl) ?_
  intro g19
  refine zbr rfl rfl rfl (zbe (z := .slice none 0 0) (s := 1) (cs := [.slice (some ⟨g19, 0, none⟩) 1 1]) rfl Try.underlying41 (by kernel_rfl) (by decide) rfl (by kernel_rfl) rfl) ?_
  intro g20
  refine zco (i := 2) (z := .slice none 0 0) (bytes := 24) (n' := ([CRow.mk (.slice (some ⟨g19, 0, none⟩) 1 1) [(k : Int)]]).length) (xs' := (([CRow.mk (.slice (some ⟨g19, 0, none⟩) 1 1) [(k : Int)]]).flatMap crowC)) rfl rfl rfl rfl Try.underlying41 (by kernel_rfl) (by kernel_rfl) rfl rfl rfl (zas 0 rfl) (by simp [Value.oneCell']) (by first | omega | (simp; omega)) (Nat.zero_add _) (List.nil_append _) (fun _ => rfl) ?_
  intro v21
  refine zbr rfl rfl rfl (zer rfl Try.underlying139 (by kernel_rfl) rfl (fun w hm => (zas 2 rfl w hm).one)) ?_
  intro g22
  refine zda (i := 3) rfl (fun ho23 => ?_)
  refine zco (i := 5) (z := .slice none 0 0) (bytes := 24) (n' := (cs ++ [(CGrp.mk v21 ([CRow.mk (.slice (some ⟨g19, 0, none⟩) 1 1) [(k : Int)]]))]).length) (xs' := ((cs ++ [(CGrp.mk v21 ([CRow.mk (.slice (some ⟨g19, 0, none⟩) 1 1) [(k : Int)]]))]).flatMap cgC)) rfl rfl rfl rfl Try.underlying139 (by kernel_rfl) (by kernel_rfl) rfl rfl rfl (zas 0 rfl) (fun q hq => by rw [List.mem_singleton] at hq; subst hq; exact ho23) (by omega) (zcb cs [(CGrp.mk v21 ([CRow.mk (.slice (some ⟨g19, 0, none⟩) 1 1) [(k : Int)]]))]) (by rw [List.flatMap_append]; rfl) (fun _ => rfl) ?_
  intro v24
  refine zad 1 rfl (zac [21, 14, 7, 6, 5, 4, 2, 1, 0] rfl (zae (zai (zaa (zab ?_)))))
  refine zad 1 rfl (hl_v rfl rfl rfl (zbj rfl rfl rfl (by constructor <;> omega)) (zad 1 rfl (zac [21, 14, 7, 6, 5, 4, 2, 1, 0] rfl (zae ?_))))
  refine zbu 7 [6, 5, 2, 3, 4] rfl rfl (by decide) ?_
  refine zcz 3 rfl ?_
  exact zbx (k + 1) (cs ++ [(CGrp.mk v21 ([CRow.mk (.slice (some ⟨g19, 0, none⟩) 1 1) [(k : Int)]]))]) v24 [bigE ps, rowE 26 1 v21 (([CRow.mk (.slice (some ⟨g19, 0, none⟩) 1 1) [(k : Int)]]).length) (([CRow.mk (.slice (some ⟨g19, 0, none⟩) 1 1) [(k : Int)]]).flatMap crowC), rowE 3 1 (.slice (some ⟨g19, 0, none⟩) 1 1) 1 ([(k : Int)].map (Value.int .i64))] ⟨by omega, by omega, by rw [List.length_append, List.length_singleton]; omega, hg.app (GrpOk.one (by simp)), fun w hw => (hs w (zbn hw List.mem_cons_self)).app (rds_cl_of' (zcc (zbn hw (List.mem_cons_of_mem _ List.mem_cons_self))) (fun r hr => by rw [List.mem_singleton] at hr; subst hr; exact zcc (zbn hw (List.mem_cons_of_mem _ (List.mem_cons_of_mem _ List.mem_cons_self)))))⟩ (by omega) (zan [6, 5, 4, 2, 1, 0] rfl) ((.cons_cons _ (.cons_cons _ (.cons_cons _ .slnil))))
 refine zac [14, 6, 5, 4, 2, 1, 0] rfl (zae (zaa (zaq rfl ?_)))
 refine zbp ?_
 refine zah (zah ?_)
 refine zav ?_
 refine zaa (zaf (zab (zad 2 rfl (zac [14, 6, 5, 4, 2, 1, 0] rfl (zae ?_)))))
 refine zaa ?_
 refine zbl ?_
 refine zbu 3 [1, 0] rfl rfl (by decide) ?_
 refine zcz 2 rfl ?_
 exact zdn (post := [bigE [bigE ps, rowE 41 1 gv cs.length (cs.flatMap cgC)]]) rfl rfl (.refl _) ⟨_, cs, rfl, fun w hw => ⟨zcc (zbn hw (List.mem_cons_of_mem _ List.mem_cons_self)), hs w (zbn hw List.mem_cons_self)⟩, by omega, hg⟩
set_option maxHeartbeats 4000000 in
set_option maxRecDepth 100000 in
theorem EnumE_ret (n : Nt) (node : Int) (w : World) (hr : RdsNt w n) (hn : NtOk n) (hnd : 0 ≤ node ∧ node < n.cnt) :
   Calls Try.prog 85 #[.agg #[.int .i64 n.ins, n.sv, n.av, n.ov], .int .i64 node] w (Ret w (fun u_ p_ => ∃ (ps : List HP) (us : List CRow), p_ = [bigE ps] ∧ (∀ w, (bigE ps).holds w → RdsCl w u_ us) ∧ GrpOk us)) := by
 have hi0 := hn.i0
 have hi1 := hn.i1
 have hs1 := hn.s1
 have ha1 := hn.a1
 have ho1 := hn.o1
 have hcnt : n.cnt = 1 + n.ins + n.ss.length + n.gs.length := rfl
 have hfst : n.fst = 1 + n.ins + n.ss.length := rfl
 refine zbq (N := 48) (args := [.agg #[.int .i64 n.ins, n.sv, n.av, n.ov], .int .i64 node]) Try.func85 rfl rfl ?_
 refine zbt _ [1, 0] rfl (zaf (zab ?_))
 refine zci rfl rfl rfl (zdd rfl rfl) ?_
 intro b1
 refine zad 1 rfl (zac [4, 2, 1, 0] rfl (zae (zaa (zaf (zab ?_)))))
 refine zbr rfl rfl rfl (zcr (s := 1) rfl Try.underlying41 (by kernel_rfl)) ?_
 intro g2
 refine zad 1 rfl (zac [5, 4, 2, 1, 0] rfl (zae (zaa (zaf (zaf ?_)))))
 refine zab (hl_v rfl rfl rfl (zbc (cs := [.int .i64 n.ins, n.sv, n.av, n.ov]) rfl (by kernel_rfl) (by kernel_rfl) rfl rfl (zay 1 rfl 0 rfl)) ?_)
 refine zbm rfl rfl rfl (zba (by kernel_rfl) rfl (fun w hm => zbk (zdk n w (hr.below hm.bel) hn))) ?_
 refine zad 3 rfl ?_
 refine zbw rfl rfl rfl rfl rfl rfl (fun h3 => absurd h3 (by omega)) (fun h3 => ?_)
 refine zad 3 rfl (hl_v rfl rfl rfl (zbc (cs := [.int .i64 n.ins, n.sv, n.av, n.ov]) rfl (by kernel_rfl) (by kernel_rfl) rfl rfl (zay 1 rfl 0 rfl)) ?_)
 refine zbm rfl rfl rfl (zba (by kernel_rfl) rfl (fun w hm => zbk (zbs n w (hr.below hm.bel) hn))) ?_
 refine zey rfl rfl rfl rfl rfl rfl (fun h4 => absurd h4 (by omega)) (fun h4 => ?_)
 refine zad 1 rfl (zac [21, 5, 4, 2, 1, 0] rfl (zae (zaa (zaq rfl (zaz ?_)))))
 refine zaa (zaf (zab (hl_v rfl rfl rfl (zbc (cs := [.int .i64 n.ins, n.sv, n.av, n.ov]) rfl (by kernel_rfl) (by kernel_rfl) rfl rfl (zay 1 rfl 0 rfl)) (zad 1 rfl ?_))))
 refine hl_q rfl rfl rfl (zba (by kernel_rfl) rfl (fun w hm => l13All_ret n node w (hr.below hm.bel) hn hnd)) ?_
 intro v5 p6 hR7
 obtain ⟨as_, cs, rfl, hs, hcl, hg⟩ := hR7
 have hgn := hg.at (k := node.toNat) (by omega)
 have hgl := hgn.len
 refine zad 1 rfl (zac [21, 6, 5, 4, 2, 1, 0] rfl (zae (zaa (zaf (zaf ?_)))))
 refine zab (zad 1 rfl (zac [21, 7, 6, 5, 4, 2, 1, 0] rfl (zae (zaa (zax ?_)))))
 refine zea _ zfk ?_
 refine zdl (α := Nat) (β := List CRow) (γ := Value) (δ := List HP) (fun i qs ov ps => [bigE ps, bigE as_, rowE 26 1 ov qs.length (qs.flatMap crowC), boxE b1 #[.int .i64 n.ins, n.sv, n.av, n.ov] 101]) (fun i qs ov ps => [(0, .agg #[.int .i64 n.ins, n.sv, n.av, n.ov]), (1, .int .i64 node), (2, .pointer (some ⟨b1, 0, none⟩)), (4, .slice none 0 0), (5, ov), (6, v5), (7, .int .i64 (i : Int)), (21, .bool false)]) (fun i qs ov ps => i ≤ (cs.getD ((node).toNat) cgrp0).rs.length ∧ qs.length = i ∧ (∀ r ∈ qs, r.xs.length ≤ 4) ∧ ∀ w, (bigE ps).holds w → RdsAll w qs) (fun i qs ov ps => (cs.getD ((node).toNat) cgrp0).rs.length - i) 0 [] _ [] ⟨Nat.zero_le _, rfl, (fun r hr => by cases hr), fun w _ => RdsAll.nil w⟩ (zan [21, 7, 6, 5, 4, 2, 1, 0] rfl) ((.cons_cons _ (.cons_cons _ (.cons_cons _ (.cons_cons _ .slnil))))) ?_
 intro i qs ov ps hi8
 obtain ⟨hi, hql, hq4, hps⟩ := hi8
 refine zaf (zaf (zab (zad 3 rfl ?_)))
 refine hl_v rfl rfl rfl (zal (s := 1) rfl Try.underlying139 (by kernel_rfl) rfl rfl (fun w hm => (hs w (hm.holds _ (zcl (i := 1) rfl))).1) (by omega) (by omega)) ?_
 refine hl_v rfl rfl rfl (zam (u := (cs.getD ((node).toNat) cgrp0).v) rfl (by kernel_rfl) rfl (fun w hm => (hs w (hm.holds _ (zcl (i := 1) rfl))).1) (zbz cgC (fun r => r.v) (fun _ => rfl) cs cgrp0 (show (node).toNat < _ by omega))) ?_
 refine hl_v rfl rfl rfl (zbo rfl Try.underlying41 rfl (fun w hm => ((hs w (hm.holds _ (zcl (i := 1) rfl))).2.at (k := node.toNat) (by omega)).row)) ?_
 refine zbw rfl rfl rfl rfl rfl rfl (fun h9 => ?_) (fun h9 => ?_)
 ·
  refine zac [32, 21, 7, 6, 5, 4, 2, 1, 0] rfl (zae (zaa (zbb rfl (zaz (zaa ?_)))))
  refine zaf (zax (zab (zad 1 rfl ?_)))
  refine zbr rfl rfl rfl (zcr (s := 1) rfl Try.underlying26 (by kernel_rfl)) ?_
  intro g10
  refine zad 2 rfl ?_
  refine hl_v rfl rfl rfl (zal (s := 1) rfl Try.underlying139 (by kernel_rfl) rfl rfl (fun w hm => (hs w (hm.holds _ (zcl (i := 2) rfl))).1) (by omega) (by omega)) ?_
  refine hl_v rfl rfl rfl (zam (u := (cs.getD ((node).toNat) cgrp0).v) rfl (by kernel_rfl) rfl (fun w hm => (hs w (hm.holds _ (zcl (i := 2) rfl))).1) (zbz cgC (fun r => r.v) (fun _ => rfl) cs cgrp0 (show (node).toNat < _ by omega))) ?_
  refine zad 1 rfl ?_
  refine hl_v rfl rfl rfl (zal (s := 1) rfl Try.underlying41 (by kernel_rfl) rfl rfl (fun w hm => ((hs w (hm.holds _ (zcl (i := 2) rfl))).2.at (k := node.toNat) (by omega)).row) (by omega) (by omega)) ?_
  refine hl_v rfl rfl rfl (zam (u := (((cs.getD ((node).toNat) cgrp0).rs).getD i crow0).v) rfl (by kernel_rfl) rfl (fun w hm => ((hs w (hm.holds _ (zcl (i := 2) rfl))).2.at (k := node.toNat) (by omega)).row) (zbz crowC (fun r => r.v) (fun _ => rfl) ((cs.getD ((node).toNat) cgrp0).rs) crow0 (show i < _ by omega))) ?_
  have h4i := hgn.four _ (zcp (es := (cs.getD ((node).toNat) cgrp0).rs) (i := i) (d := crow0) (by omega))
  refine zco (i := 0) (z := .int .i64 0) (bytes := 8) (n' := ((((cs.getD ((node).toNat) cgrp0).rs).getD i crow0).xs).length) (xs' := (((((cs.getD ((node).toNat) cgrp0).rs).getD i crow0).xs).map (Value.int .i64))) rfl rfl rfl rfl Try.underlying26 (by kernel_rfl) (by kernel_rfl) rfl rfl rfl (fun w hm => ((hs w (hm.holds _ (zcl (i := 2) rfl))).2.at (k := node.toNat) (by omega)).at (k := i) (by omega)) (zcd _) (by first | omega | (simp; done) | (simp; omega)) ((Nat.zero_add _)) ((List.nil_append _)) (fun _ => rfl) ?_
  intro v11
  refine zbr rfl rfl rfl (zer rfl Try.underlying41 (by kernel_rfl) rfl (fun w hm => (zas 0 rfl w hm).one)) ?_
  intro g12
  refine zda (i := 1) rfl (fun ho13 => ?_)
  refine zco (i := 4) (z := .slice none 0 0) (bytes := 24) rfl rfl rfl rfl Try.underlying41 (by kernel_rfl) (by kernel_rfl) rfl rfl rfl (zas 0 rfl) (zar ho13 zby) (by first | omega | (simp only [List.length_append, List.length_cons, List.length_nil]; omega)) (zcb qs [(CRow.mk v11 (((cs.getD ((node).toNat) cgrp0).rs).getD i crow0).xs)]) (zdc crowC qs (CRow.mk v11 (((cs.getD ((node).toNat) cgrp0).rs).getD i crow0).xs) _ rfl) (fun _ => rfl) ?_
  intro v14
  refine zad 1 rfl (zac [32, 21, 7, 6, 5, 4, 2, 1, 0] rfl (zae (zai (zaa (zab ?_)))))
  refine zad 1 rfl (hl_v rfl rfl rfl (zbj rfl rfl rfl (by constructor <;> omega)) (zad 1 rfl (zac [32, 21, 7, 6, 5, 4, 2, 1, 0] rfl (zae ?_))))
  refine zbu 6 [5, 4, 3, 1, 2] rfl rfl (by decide) ?_
  refine zcz 2 rfl ?_
  exact zbx (i + 1) (qs ++ [(CRow.mk v11 (((cs.getD ((node).toNat) cgrp0).rs).getD i crow0).xs)]) v14 [bigE ps, rowE 3 1 v11 (((((cs.getD ((node).toNat) cgrp0).rs).getD i crow0).xs).length) (((((cs.getD ((node).toNat) cgrp0).rs).getD i crow0).xs).map (Value.int .i64))] ⟨by omega, by rw [List.length_append, List.length_singleton]; omega, (fun r hr => (List.mem_append.1 hr).elim (hq4 r) (fun h => by rw [List.mem_singleton] at h; subst h; exact h4i)), fun w hw => RdsAll.cons (u := CRow.mk v11 ((((cs.getD ((node).toNat) cgrp0).rs).getD i crow0).xs)) (hps w (zbn hw List.mem_cons_self)) (zcc (zbn hw (List.mem_cons_of_mem _ List.mem_cons_self))) (fun q hq => (List.mem_append.1 hq).elim .inr (fun h => .inl (List.mem_singleton.1 h)))⟩ (by omega) (zan [21, 7, 6, 5, 4, 2, 1, 0] rfl) ((.cons_cons _ (.cons_cons _ (.cons_cons _ (.cons_cons _ .slnil)))))
 refine zac [32, 21, 7, 6, 5, 4, 2, 1, 0] rfl (zae (zaa (zaq rfl ?_)))
 refine zbp ?_
 refine zah (zah ?_)
 refine zav ?_
 refine zaa (zaf (zab (zad 2 rfl (zac [32, 21, 7, 6, 5, 4, 2, 1, 0] rfl (zae ?_)))))
 refine zaa ?_
 refine zbl ?_
 refine zbu 4 [2, 0] rfl rfl (by decide) ?_
 refine zcz 2 rfl ?_
 exact zdn (post := [bigE [bigE ps, rowE 26 1 ov qs.length (qs.flatMap crowC)]]) rfl rfl (.refl _) ⟨_, qs, rfl, fun w hw => rds_cl_of' (zcc (zbn hw (List.mem_cons_of_mem _ List.mem_cons_self))) (hps w (zbn hw List.mem_cons_self)), ⟨by have := hgn.pos; omega, by omega, hq4⟩⟩
theorem l01In_yes {a b c : Int} (h1 : b ≤ a) (h2 : a ≤ c) (w : World) : Calls Try.prog 69 #[.int .i64 a, .int .i64 b, .int .i64 c] w (Ans w (.bool true)) := by
  rw [← inR_true h1 h2]; exact ans_of (l01In_any _ _ _ w)
structure Tab where
  N : Int
  B : Int
def pn (n : Int) : Nat := 2 ^ n.toNat
def qn (n : Int) : Int := 2 ^ (2 ^ n.toNat)
theorem five {n : Int} (h : 0 ≤ n ∧ n ≤ 4) : n = 0 ∨ n = 1 ∨ n = 2 ∨ n = 3 ∨ n = 4 := by omega
theorem pn_rng {n : Int} (h : 0 ≤ n ∧ n ≤ 4) : 1 ≤ pn n ∧ pn n ≤ 16 := by
  rcases five h with rfl | rfl | rfl | rfl | rfl <;> decide
theorem qn_rng {n : Int} (h : 0 ≤ n ∧ n ≤ 4) : 2 ≤ qn n ∧ qn n ≤ 65536 := by
  rcases five h with rfl | rfl | rfl | rfl | rfl <;> decide
theorem wr1 {n : Int} (h : 0 ≤ n ∧ n ≤ 4) : IntKind.i64.wrap (1 * 2 ^ n.toNat) = (pn n : Int) := by
  rcases five h with rfl | rfl | rfl | rfl | rfl <;> exact IntWalk.i64_in _ (by decide)
theorem wru {n : Int} (h : 0 ≤ n ∧ n ≤ 4) : IntKind.u64.wrap (1 * 2 ^ n.toNat) = (pn n : Int) := by
  rcases five h with rfl | rfl | rfl | rfl | rfl <;> exact IntWalk.u64_in _ (by decide)
theorem wr2 {n : Int} (h : 0 ≤ n ∧ n ≤ 4) : IntKind.i64.wrap (1 * 2 ^ ((pn n : Int)).toNat) = qn n := by
  rcases five h with rfl | rfl | rfl | rfl | rfl <;> exact IntWalk.i64_in _ (by decide)
def TabOk (t : Tab) : Prop := (0 ≤ t.N ∧ t.N ≤ 4) ∧ 0 ≤ t.B ∧ t.B ≤ qn t.N - 1
theorem andB {x : Int} (k : Nat) (h : 0 ≤ x ∧ x ≤ 65535) : bits .and .i64 (x / 2 ^ k) 1 = x / 2 ^ k % 2 := by
  have h1 : (0 : Int) ≤ x / 2 ^ k := Int.ediv_nonneg h.1 (Int.le_of_lt (Int.pow_pos (by decide)))
  have h2 : x / 2 ^ k ≤ x := Int.ediv_le_self _ h.1
  exact Bit.and_one _ h1 (by omega)
open Go.RowKit
set_option maxHeartbeats 4000000 in
set_option maxRecDepth 100000 in
theorem l02Full_ans (n : Int) (w : World) (hn : 0 ≤ n ∧ n ≤ 4) :
  Calls Try.prog 62 #[.int .i64 n] w (Ans w (.int .i64 (qn n - 1))) := by
 have hp := pn_rng hn
 have hq := qn_rng hn
 refine zbq (N := 7) (args := [.int .i64 n]) Try.func62 rfl rfl ?_
 refine hc_less _ (sx 0 rfl (zag _)) (.refl _) ?_
 refine zaf (zab (hl_v rfl rfl rfl (zap rfl) ?_))
 refine zff (sx 0 rfl (sx 2 rfl (zag _))) (.refl _) ?_
 refine zae (zaa (zaf (zab (hl_v rfl rfl rfl (zap rfl) (hl_v rfl rfl rfl (zfd (k := .u64) (kk := .i64) (r := (pn n : Int)) rfl rfl rfl rfl (by omega) (wru hn)) ?_)))))
 refine hl_v rfl rfl rfl (zfd (k := .i64) (kk := .u64) (r := qn n) rfl rfl rfl rfl (by omega) (wr2 hn)) (hl_v rfl rfl rfl (zdb rfl rfl rfl (by constructor <;> omega)) (hl_v rfl rfl rfl (zap rfl) ?_))
 refine zff (sx 0 rfl (sx 2 rfl (zag _))) (.refl _) ?_
 refine zae (zaa ?_)
 refine zbl ?_
 exact zch rfl rfl rfl
set_option maxHeartbeats 4000000 in
set_option maxRecDepth 100000 in
theorem specTableOk_yes (t : Tab) (w : World) (ht : TabOk t) :
  Calls Try.prog 87 #[.agg #[.int .i64 t.N, .int .i64 t.B]] w (Ans w (.bool true)) := by
 obtain ⟨hn, hB0, hB1⟩ := ht
 have hp := pn_rng hn
 have hq := qn_rng hn
 refine zbq (N := 19) (args := [.agg #[.int .i64 t.N, .int .i64 t.B]]) Try.func87 rfl rfl ?_
 refine hc_less _ (sx 0 rfl (zag _)) (.refl _) ?_
 refine zaf (zab ?_)
 refine zci rfl rfl rfl (zdd rfl rfl) ?_
 intro b1
 refine hl_v rfl rfl rfl (zap rfl) ?_
 refine zff (sx 0 rfl (sx 1 rfl (sx 2 rfl (zag _)))) (.refl _) ?_
 refine zae (zaa (zaf ?_))
 have hb2 : (decide (0 ≤ t.B)) = true := decide_eq_true (by omega)
 have hb3 : (decide (t.B ≤ qn t.N - 1)) = true := decide_eq_true (by omega)
 refine zdj (by kernel_rfl) 16 [0, 1, 2, 3, 4, 5, 6, 7, 8, 9, 10, 11, 12, 13, 14, 15] (List.take 16 _) (List.drop 16 _) [[], [0], [1], [2], [3], [3, 4], [3, 5], [3, 6], [7], [8], [8, 9], [8], [8, 11], [8, 12], [8, 10, 13], [8, 14]] [3, 4, 5, 6, 7, 8, 9, 10, 11, 12, 13, 14, 15, 16, 17, 18] (fun i_ vs_ v_ p_ => match i_ with | 0 => v_ = .pointer (some ⟨b1, 0 + 0, none⟩) ∧ p_ = [] | 1 => v_ = .int .i64 t.N ∧ p_ = [] | 2 => v_ = .bool true ∧ p_ = [] | 3 => v_ = .bool true ∧ p_ = [] | 4 => v_ = .pointer (some ⟨b1, 0 + 1, none⟩) ∧ p_ = [] | 5 => v_ = .int .i64 t.B ∧ p_ = [] | 6 => v_ = .bool true ∧ p_ = [] | 7 => v_ = .bool true ∧ p_ = [] | 8 => v_ = .bool true ∧ p_ = [] | 9 => v_ = .pointer (some ⟨b1, 0 + 1, none⟩) ∧ p_ = [] | 10 => v_ = .int .i64 t.B ∧ p_ = [] | 11 => v_ = .pointer (some ⟨b1, 0 + 0, none⟩) ∧ p_ = [] | 12 => v_ = .int .i64 t.N ∧ p_ = [] | 13 => v_ = .int .i64 (qn t.N - 1) ∧ p_ = [] | 14 => v_ = .bool true ∧ p_ = [] | 15 => v_ = .bool true ∧ p_ = [] | _ => True) (List.take_append_drop 16 _).symm (by kernel_rfl) (by kernel_rfl) rfl rfl ?_ ?_
 ·
  refine ⟨?_, ?_, ?_, ?_, ?_, ?_, ?_, ?_, ?_, ?_, ?_, ?_, ?_, ?_, ?_, ?_, trivial⟩
  ·
   intro vf pf hR
   refine Or.inl ⟨rfl, ?_⟩
   refine zau (sx 1 rfl (zag _)) (List.sublist_append_right _ _) ?_
   exact rq_v (zat (k0 := 0) rfl (by kernel_rfl) rfl)
  ·
   intro vf pf hR
   have e0 : (vf 0) = .pointer (some ⟨b1, 0 + 0, none⟩) ∧ (pf 0) = [] := hR 0 (by decide)
   refine Or.inl ⟨rfl, ?_⟩
   refine zau (sx 3 (congrArg some e0.1) (zag _)) (List.sublist_append_right _ _) ?_
   exact rq_v (zbd rfl (by kernel_rfl) rfl (zaw 0 rfl rfl))
  ·
   intro vf pf hR
   have e1 : (vf 1) = .int .i64 t.N ∧ (pf 1) = [] := hR 1 (by decide)
   refine Or.inl ⟨rfl, ?_⟩
   refine zau (sx 4 (congrArg some e1.1) (zag _)) (List.sublist_append_right _ _) ?_
   exact (zba (by kernel_rfl) rfl (fun w hm => zbk (l01In_yes (by omega) (by omega) w)))
  ·
   intro vf pf hR
   have e2 : (vf 2) = .bool true ∧ (pf 2) = [] := hR 2 (by decide)
   refine Or.inl ⟨rfl, ?_⟩
   refine zau (sx 5 (congrArg some e2.1) (zag _)) (List.sublist_append_right _ _) ?_
   exact rq_v (zap rfl)
  ·
   intro vf pf hR
   have e3 : (vf 3) = .bool true ∧ (pf 3) = [] := hR 3 (by decide)
   refine Or.inl ⟨zfv (congrArg some e3.1) rfl, ?_⟩
   refine zau (sx 1 rfl (zag _)) (List.sublist_append_right _ _) ?_
   exact rq_v (zat (k0 := 1) rfl (by kernel_rfl) rfl)
  ·
   intro vf pf hR
   have e3 : (vf 3) = .bool true ∧ (pf 3) = [] := hR 3 (by decide)
   have e4 : (vf 4) = .pointer (some ⟨b1, 0 + 1, none⟩) ∧ (pf 4) = [] := hR 4 (by decide)
   refine Or.inl ⟨zfv (congrArg some e3.1) rfl, ?_⟩
   refine zau (sx 7 (congrArg some e4.1) (zag _)) (List.sublist_append_right _ _) ?_
   exact rq_v (zbd rfl (by kernel_rfl) rfl (zaw 0 rfl rfl))
  ·
   intro vf pf hR
   have e3 : (vf 3) = .bool true ∧ (pf 3) = [] := hR 3 (by decide)
   have e5 : (vf 5) = .int .i64 t.B ∧ (pf 5) = [] := hR 5 (by decide)
   refine Or.inl ⟨zfv (congrArg some e3.1) rfl, ?_⟩
   refine zau (sx 8 (congrArg some e5.1) (zag _)) (List.sublist_append_right _ _) ?_
   exact zcw (rq_v (zcq rfl rfl rfl rfl)) (fun _ _ h => ⟨h.1.trans (congrArg Value.bool hb2), h.2⟩)
  ·
   intro vf pf hR
   have e3 : (vf 3) = .bool true ∧ (pf 3) = [] := hR 3 (by decide)
   have e6 : (vf 6) = .bool true ∧ (pf 6) = [] := hR 6 (by decide)
   refine Or.inl ⟨rfl, ?_⟩
   refine zau (sx 6 (congrArg some e3.1) (sx 9 (congrArg some e6.1) (zag _))) (List.sublist_append_right _ _) ?_
   exact rq_v (zap rfl)
  ·
   intro vf pf hR
   have e7 : (vf 7) = .bool true ∧ (pf 7) = [] := hR 7 (by decide)
   refine Or.inl ⟨rfl, ?_⟩
   refine zau (sx 10 (congrArg some e7.1) (zag _)) (List.sublist_append_right _ _) ?_
   exact rq_v (zap rfl)
  ·
   intro vf pf hR
   have e8 : (vf 8) = .bool true ∧ (pf 8) = [] := hR 8 (by decide)
   refine Or.inl ⟨zfv (congrArg some e8.1) rfl, ?_⟩
   refine zau (sx 1 rfl (zag _)) (List.sublist_append_right _ _) ?_
   exact rq_v (zat (k0 := 1) rfl (by kernel_rfl) rfl)
  ·
   intro vf pf hR
   have e8 : (vf 8) = .bool true ∧ (pf 8) = [] := hR 8 (by decide)
   have e9 : (vf 9) = .pointer (some ⟨b1, 0 + 1, none⟩) ∧ (pf 9) = [] := hR 9 (by decide)
   refine Or.inl ⟨zfv (congrArg some e8.1) rfl, ?_⟩
   refine zau (sx 12 (congrArg some e9.1) (zag _)) (List.sublist_append_right _ _) ?_
   exact rq_v (zbd rfl (by kernel_rfl) rfl (zaw 0 rfl rfl))
  ·
   intro vf pf hR
   have e8 : (vf 8) = .bool true ∧ (pf 8) = [] := hR 8 (by decide)
   refine Or.inl ⟨zfv (congrArg some e8.1) rfl, ?_⟩
   refine zau (sx 1 rfl (zag _)) (List.sublist_append_right _ _) ?_
   exact rq_v (zat (k0 := 0) rfl (by kernel_rfl) rfl)
  ·
   intro vf pf hR
   have e8 : (vf 8) = .bool true ∧ (pf 8) = [] := hR 8 (by decide)
   have e11 : (vf 11) = .pointer (some ⟨b1, 0 + 0, none⟩) ∧ (pf 11) = [] := hR 11 (by decide)
   refine Or.inl ⟨zfv (congrArg some e8.1) rfl, ?_⟩
   refine zau (sx 14 (congrArg some e11.1) (zag _)) (List.sublist_append_right _ _) ?_
   exact rq_v (zbd rfl (by kernel_rfl) rfl (zaw 0 rfl rfl))
  ·
   intro vf pf hR
   have e8 : (vf 8) = .bool true ∧ (pf 8) = [] := hR 8 (by decide)
   have e12 : (vf 12) = .int .i64 t.N ∧ (pf 12) = [] := hR 12 (by decide)
   refine Or.inl ⟨zfv (congrArg some e8.1) rfl, ?_⟩
   refine zau (sx 15 (congrArg some e12.1) (zag _)) (List.sublist_append_right _ _) ?_
   exact (zba (by kernel_rfl) rfl (fun w hm => zbk (l02Full_ans _ w hn)))
  ·
   intro vf pf hR
   have e8 : (vf 8) = .bool true ∧ (pf 8) = [] := hR 8 (by decide)
   have e10 : (vf 10) = .int .i64 t.B ∧ (pf 10) = [] := hR 10 (by decide)
   have e13 : (vf 13) = .int .i64 (qn t.N - 1) ∧ (pf 13) = [] := hR 13 (by decide)
   refine Or.inl ⟨zfv (congrArg some e8.1) rfl, ?_⟩
   refine zau (sx 13 (congrArg some e10.1) (sx 16 (congrArg some e13.1) (zag _))) (List.sublist_append_right _ _) ?_
   exact zcw (rq_v (zcq rfl rfl rfl rfl)) (fun _ _ h => ⟨h.1.trans (congrArg Value.bool hb3), h.2⟩)
  intro vf pf hR
  have e8 : (vf 8) = .bool true ∧ (pf 8) = [] := hR 8 (by decide)
  have e14 : (vf 14) = .bool true ∧ (pf 14) = [] := hR 14 (by decide)
  refine Or.inl ⟨rfl, ?_⟩
  refine zau (sx 11 (congrArg some e8.1) (sx 17 (congrArg some e14.1) (zag _))) (List.sublist_append_right _ _) ?_
  exact rq_v (zap rfl)
 intro vf pf hR
 have e15 : (vf 15) = .bool true ∧ (pf 15) = [] := hR 15 (by decide)
 refine zff (sx 0 rfl (sx 1 rfl (sx 2 rfl (sx 18 (congrArg some e15.1) (zag _))))) (List.sublist_append_right _ _) ?_
 simp only [List.drop_succ_cons, List.drop_zero]
 refine hl_v rfl rfl rfl (zap rfl) ?_
 refine zff (sx 0 rfl (sx 1 rfl (sx 2 rfl (zag _)))) (.refl _) ?_
 refine zae (zaa ?_)
 refine zbl ?_
 exact zch rfl rfl rfl
open Go.RowKit
open Go.RowKit
set_option maxHeartbeats 4000000 in
set_option maxRecDepth 100000 in
theorem TableNot_ret (n x : Int) (w : World) (hn : 0 ≤ n ∧ n ≤ 4) (ha : 0 ≤ x ∧ x ≤ qn n - 1) :
  Calls Try.prog 82 #[.agg #[.int .i64 n, .int .i64 x]] w (Ret w (fun v' post => post = [] ∧ ∃ t : Tab, TabOk t ∧ t.N = n ∧ v' = .agg #[.int .i64 t.N, .int .i64 t.B])) := by
 have hq := qn_rng hn
 refine zbq (N := 16) (args := [.agg #[.int .i64 n, .int .i64 x]]) Try.func82 rfl rfl ?_
 refine hc_less _ (sx 0 rfl (zag _)) (.refl _) ?_
 refine zaf (zab ?_)
 refine zci rfl rfl rfl (zdd rfl rfl) ?_
 intro b1
 refine zci rfl rfl rfl (zcj (z := .agg #[.int .i64 0, .int .i64 0]) rfl (by kernel_rfl)) ?_
 intro b2
 refine zff (sx 0 rfl (sx 1 rfl (sx 2 rfl (zag _)))) (.refl _) ?_
 refine zae (zaa (zaf (zaf (zab (hl_v rfl rfl rfl (zbc (cs := [.int .i64 n, .int .i64 x]) rfl (by kernel_rfl) (by kernel_rfl) rfl rfl (zay 1 rfl 0 rfl)) ?_)))))
 refine zbm rfl rfl rfl (zba (by kernel_rfl) rfl (fun w hm => zbk (specTableOk_yes ⟨n, x⟩ w ⟨(by show 0 ≤ n ∧ n ≤ 4; omega), (by show 0 ≤ x ∧ x ≤ qn (n) - 1; omega)⟩))) ?_
 refine hl_v rfl rfl rfl (zap rfl) ?_
 refine zff (sx 0 rfl (sx 1 rfl (sx 2 rfl (sx 5 rfl (zag _))))) (.refl _) ?_
 refine zae (zaa (zaq rfl (zaz (zaa (zaf ?_)))))
 refine zdj (by kernel_rfl) 9 [0, 1, 2, 3, 4, 5, 6, 7, 8] (List.take 9 _) (List.drop 9 _) [[], [0], [], [2], [3], [], [5], [4, 6], [1, 7]] [7, 8, 9, 10, 11, 12, 13, 14, 15] (fun i_ vs_ v_ p_ => match i_ with | 0 => v_ = .pointer (some ⟨b1, 0 + 0, none⟩) ∧ p_ = [] | 1 => v_ = .int .i64 n ∧ p_ = [] | 2 => v_ = .pointer (some ⟨b1, 0 + 0, none⟩) ∧ p_ = [] | 3 => v_ = .int .i64 n ∧ p_ = [] | 4 => v_ = .int .i64 (qn n - 1) ∧ p_ = [] | 5 => v_ = .pointer (some ⟨b1, 0 + 1, none⟩) ∧ p_ = [] | 6 => v_ = .int .i64 x ∧ p_ = [] | 7 => v_ = .int .i64 ((qn n - 1) - x) ∧ p_ = [] | 8 => v_ = .agg #[.int .i64 n, .int .i64 ((qn n - 1) - x)] ∧ p_ = [] | _ => True) (List.take_append_drop 9 _).symm (by kernel_rfl) (by kernel_rfl) rfl rfl ?_ ?_
 ·
  refine ⟨?_, ?_, ?_, ?_, ?_, ?_, ?_, ?_, ?_, trivial⟩
  ·
   intro vf pf hR
   refine Or.inl ⟨rfl, ?_⟩
   refine zau (sx 1 rfl (zag _)) (List.sublist_append_right _ _) ?_
   exact rq_v (zat (k0 := 0) rfl (by kernel_rfl) rfl)
  ·
   intro vf pf hR
   have e0 : (vf 0) = .pointer (some ⟨b1, 0 + 0, none⟩) ∧ (pf 0) = [] := hR 0 (by decide)
   refine Or.inl ⟨rfl, ?_⟩
   refine zau (sx 7 (congrArg some e0.1) (zag _)) (List.sublist_append_right _ _) ?_
   exact rq_v (zbd rfl (by kernel_rfl) rfl (zaw 1 rfl rfl))
  ·
   intro vf pf hR
   refine Or.inl ⟨rfl, ?_⟩
   refine zau (sx 1 rfl (zag _)) (List.sublist_append_right _ _) ?_
   exact rq_v (zat (k0 := 0) rfl (by kernel_rfl) rfl)
  ·
   intro vf pf hR
   have e2 : (vf 2) = .pointer (some ⟨b1, 0 + 0, none⟩) ∧ (pf 2) = [] := hR 2 (by decide)
   refine Or.inl ⟨rfl, ?_⟩
   refine zau (sx 9 (congrArg some e2.1) (zag _)) (List.sublist_append_right _ _) ?_
   exact rq_v (zbd rfl (by kernel_rfl) rfl (zaw 1 rfl rfl))
  ·
   intro vf pf hR
   have e3 : (vf 3) = .int .i64 n ∧ (pf 3) = [] := hR 3 (by decide)
   refine Or.inl ⟨rfl, ?_⟩
   refine zau (sx 10 (congrArg some e3.1) (zag _)) (List.sublist_append_right _ _) ?_
   exact (zba (by kernel_rfl) rfl (fun w hm => zbk (l02Full_ans _ w (by omega))))
  ·
   intro vf pf hR
   refine Or.inl ⟨rfl, ?_⟩
   refine zau (sx 1 rfl (zag _)) (List.sublist_append_right _ _) ?_
   exact rq_v (zat (k0 := 1) rfl (by kernel_rfl) rfl)
  ·
   intro vf pf hR
   have e5 : (vf 5) = .pointer (some ⟨b1, 0 + 1, none⟩) ∧ (pf 5) = [] := hR 5 (by decide)
   refine Or.inl ⟨rfl, ?_⟩
   refine zau (sx 12 (congrArg some e5.1) (zag _)) (List.sublist_append_right _ _) ?_
   exact rq_v (zbd rfl (by kernel_rfl) rfl (zaw 1 rfl rfl))
  ·
   intro vf pf hR
   have e4 : (vf 4) = .int .i64 (qn n - 1) ∧ (pf 4) = [] := hR 4 (by decide)
   have e6 : (vf 6) = .int .i64 x ∧ (pf 6) = [] := hR 6 (by decide)
   refine Or.inl ⟨rfl, ?_⟩
   refine zau (sx 11 (congrArg some e4.1) (sx 13 (congrArg some e6.1) (zag _))) (List.sublist_append_right _ _) ?_
   exact rq_v (zdb rfl rfl rfl (by constructor <;> omega))
  intro vf pf hR
  have e1 : (vf 1) = .int .i64 n ∧ (pf 1) = [] := hR 1 (by decide)
  have e7 : (vf 7) = .int .i64 ((qn n - 1) - x) ∧ (pf 7) = [] := hR 7 (by decide)
  refine Or.inl ⟨rfl, ?_⟩
  refine zau (sx 8 (congrArg some e1.1) (sx 14 (congrArg some e7.1) (zag _))) (List.sublist_append_right _ _) ?_
  exact rq_v (zdu (cs := #[.int .i64 n, .int .i64 ((qn n - 1) - x)]) rfl rfl (by kernel_rfl))
 intro vf pf hR
 have e8 : (vf 8) = .agg #[.int .i64 n, .int .i64 ((qn n - 1) - x)] ∧ (pf 8) = [] := hR 8 (by decide)
 refine zff (sx 0 rfl (sx 1 rfl (sx 2 rfl (sx 5 rfl (sx 15 (congrArg some e8.1) (zag _)))))) (List.sublist_append_right _ _) ?_
 simp only [List.drop_succ_cons, List.drop_zero]
 refine zcn (cs' := #[.int .i64 n, .int .i64 ((qn n - 1) - x)]) (i := 0) (off := 0) (us := [.int .i64 n, .int .i64 ((qn n - 1) - x)]) rfl rfl rfl (by kernel_rfl) rfl rfl rfl (zar rfl (zar rfl zby)) rfl rfl rfl ?_
 refine zff (sx 0 rfl (sx 1 rfl (sx 2 rfl (sx 5 rfl (zag _))))) (.refl _) ?_
 refine zae (zaa ?_)
 refine zbl ?_
 exact zde (rs := [.cell 2 75]) (vs := [.agg #[.int .i64 n, .int .i64 ((qn n - 1) - x)]]) (post := []) rfl ⟨⟨b2, 0, [.int .i64 n, .int .i64 ((qn n - 1) - x)], rfl, rfl, by kernel_rfl, by kernel_rfl, zay 0 rfl 0 rfl⟩, trivial⟩ rfl ((.cons _ (.cons _ .slnil))) ⟨rfl, ⟨n, (qn n - 1) - x⟩, ⟨hn, by constructor <;> dsimp only <;> omega⟩, rfl, rfl⟩
/-- marks from a node down, as far as a cut -/
def opn (n : Nt) (cut : List Int) : Nat → List Bl → Bool
  | 0, _ => true
  | k + 1, bs => if (bs.getD (k + 1) bl0).b = false ∨ hasB cut ((k + 1 : Nat) : Int) = true then opn n cut k bs
    else if ((k + 1 : Nat) : Int) < n.fst then false
    else opn n cut k ((bs.set ((n.gs.getD (((k + 1 : Nat) : Int) - n.fst).toNat an0).a / 2).toNat ⟨true⟩).set ((n.gs.getD (((k + 1 : Nat) : Int) - n.fst).toNat an0).b / 2).toNat ⟨true⟩)
theorem opn_skip {n : Nt} {cut : List Int} {k : Nat} {bs : List Bl} (hk : 0 < k) (h : (bs.getD k bl0).b = false ∨ hasB cut (k : Int) = true) : opn n cut k bs = opn n cut (k - 1) bs := by
  obtain ⟨j, rfl⟩ : ∃ j, k = j + 1 := ⟨k - 1, by omega⟩
  rw [opn, if_pos h]; rfl
theorem opn_no {n : Nt} {cut : List Int} {k : Nat} {bs : List Bl} (hk : 0 < k) (h1 : (bs.getD k bl0).b = true) (h2 : hasB cut (k : Int) = false) (h3 : (k : Int) < n.fst) : opn n cut k bs = false := by
  obtain ⟨j, rfl⟩ : ∃ j, k = j + 1 := ⟨k - 1, by omega⟩
  rw [opn, if_neg (by rw [h1, h2]; decide), if_pos h3]
theorem opn_step {n : Nt} {cut : List Int} {k : Nat} {bs : List Bl} (hk : 0 < k) (h1 : (bs.getD k bl0).b = true) (h2 : hasB cut (k : Int) = false) (h3 : n.fst ≤ (k : Int)) :
    opn n cut k bs = opn n cut (k - 1) ((bs.set ((n.gs.getD ((k : Int) - n.fst).toNat an0).a / 2).toNat ⟨true⟩).set ((n.gs.getD ((k : Int) - n.fst).toNat an0).b / 2).toNat ⟨true⟩) := by
  obtain ⟨j, rfl⟩ : ∃ j, k = j + 1 := ⟨k - 1, by omega⟩
  rw [opn, if_neg (by rw [h1, h2]; decide), if_neg (by omega)]; rfl
abbrev opn0 (n : Nt) (node : Int) : List Bl := (List.replicate n.cnt.toNat bl0).set node.toNat ⟨true⟩
def ElP (n : Nt) (node : Int) (cut : List Int) (i : Nat) : Prop := hasB (coneS n node) (cut.getD i 0) = true ∧ (0 < i → cut.getD (i - 1) 0 < cut.getD i 0)
structure CutP (n : Nt) (node : Int) (cut : List Int) : Prop where
  len : cut.length ≤ 4
  el : ∀ i, i < cut.length → ElP n node cut i
  op : opn n cut node.toNat (opn0 n node) = true
theorem elP_no {n : Nt} {node : Int} {cut : List Int} {i : Nat} (h : hasB (coneS n node) (cut.getD i 0) = false ∨ (0 < i ∧ cut.getD i 0 ≤ cut.getD ((i : Int) - 1).toNat 0)) : ¬ ElP n node cut i := fun he => by
  rcases h with h | ⟨h0, h⟩
  · rw [he.1] at h; cases h
  · have := he.2 h0
    rw [show ((i : Int) - 1).toNat = i - 1 by omega] at h
    omega
theorem elP_yes {n : Nt} {node : Int} {cut : List Int} {i : Nat} (h : hasB (coneS n node) (cut.getD i 0) = true) (h1 : (i : Int) ≤ 0 ∨ cut.getD ((i : Int) - 1).toNat 0 < cut.getD i 0) : ElP n node cut i := ⟨h, fun h0 => by
  rcases h1 with h1 | h1
  · omega
  · rwa [show ((i : Int) - 1).toNat = i - 1 by omega] at h1⟩
theorem CutP.rng {n : Nt} (hn : NtOk n) {node : Int} (h0 : 0 ≤ node) {cut : List Int} (h : CutP n node cut) {i : Nat} (hi : i < cut.length) : 0 ≤ cut.getD i 0 ∧ cut.getD i 0 ≤ node := coneS_rng hn h0 _ (hasBE_mem.1 (h.el i hi).1)
structure MapP (n : Nt) (rs : List CRow) : Prop where
  len : rs.length = n.gs.length
  cut : ∀ i, i < rs.length → CutP n (n.fst + (i : Int)) (rs.getD i crow0).xs ∧ hasB (rs.getD i crow0).xs (n.fst + (i : Int)) = false
theorem MapP.below {n : Nt} (hn : NtOk n) {rs : List CRow} (h : MapP n rs) {i : Nat} (hi : i < rs.length) {k : Nat} (hk : k < (rs.getD i crow0).xs.length) : 0 ≤ (rs.getD i crow0).xs.getD k 0 ∧ (rs.getD i crow0).xs.getD k 0 < n.fst + (i : Int) := by
  have hc := h.cut i hi
  have hf : 0 ≤ n.fst := by have := hn.i0; unfold Nt.fst; omega
  have h1 := hc.1.rng hn (by omega) hk
  have hne : (rs.getD i crow0).xs.getD k 0 ≠ n.fst + (i : Int) := fun e => by
    have := hasBE_at hk e
    rw [hc.2] at this; cases this
  omega
theorem b01_set {v : List Int} (h : B01 v) {k : Nat} {x : Int} (hx : x = 0 ∨ x = 1) : B01 (v.set k x) := fun j hj => by
  rw [List.length_set] at hj
  by_cases e : k = j
  · subst e; rw [zdq hj]; exact hx
  · rw [List.getD_eq_getElem?_getD, List.getElem?_set_ne e, ← List.getD_eq_getElem?_getD]; exact h j hj
theorem b01_rep (n : Nat) : B01 (List.replicate n 0) := fun k hk => by rw [List.length_replicate] at hk; rw [getD_rep' hk]; exact .inl rfl
theorem pow16 {k : Nat} (h : k ≤ 16) : (0 : Int) < 2 ^ k ∧ (2 : Int) ^ k ≤ 65536 := by
  have h1 : (2 : Nat) ^ k ≤ 2 ^ 16 := Nat.pow_le_pow_right (by decide) h
  have h2 : ((2 ^ k : Nat) : Int) = (2 : Int) ^ k := by push_cast; rfl
  have h3 : 0 < (2 : Nat) ^ k := Nat.pow_pos (by decide)
  have h4 : (2 : Nat) ^ 16 = 65536 := by decide
  rw [← h2]; omega
theorem shl_bitE {b : Int} {k : Nat} (hb : b = 0 ∨ b = 1) (hk : k ≤ 16) : IntKind.i64.wrap (b * 2 ^ ((k : Int)).toNat) = b * 2 ^ k := by
  have hp := pow16 hk
  rw [Int.toNat_natCast]
  exact IntWalk.i64_in _ (by rcases hb with e | e <;> rw [e] <;> omega)
theorem bits_next {b x : Int} {i : Nat} (hb : 0 ≤ b ∧ b < 2 ^ i) (hx : x = 0 ∨ x = 1) : 0 ≤ b + x * 2 ^ i ∧ b + x * 2 ^ i < 2 ^ (i + 1) := by
  have hp : (0 : Int) < 2 ^ i := Int.pow_pos (by decide)
  rw [Int.pow_succ]
  rcases hx with e | e <;> rw [e] <;> omega
theorem bits_all {m b : Int} (hm : 0 ≤ m ∧ m ≤ 4) {i : Nat} (hi : i = pn m) (hb : 0 ≤ b ∧ b < 2 ^ i) : TabOk (Tab.mk m b) := by
  subst hi
  refine ⟨hm, hb.1, ?_⟩
  show b ≤ 2 ^ (2 ^ m.toNat) - 1
  have := hb.2
  unfold pn at this
  omega
end Go.Proofs.Ytakjndmlanpadaa
