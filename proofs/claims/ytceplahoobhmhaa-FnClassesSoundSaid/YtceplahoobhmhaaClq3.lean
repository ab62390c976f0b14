/- Texts of the law FnClassesSound, part 3: what it uses. -/
import Derived.Test.YtceplahoobhmhaaClq2
set_option linter.unusedVariables false
set_option linter.unusedSimpArgs false
set_option maxHeartbeats 4000000
set_option maxRecDepth 100000
namespace Go.Proofs.Ytceplahoobhmhaa
open Go.RowKit Go.ChangeShapes
open Go.RowKit
theorem nx_rng {n : Nt} (hn : NtOk n) {st : List Int} (hso : StOk n st) (inp : Int) {k : Nat} (hk : k < n.ss.length) : 0 ≤ nxN n st inp k ∧ nxN n st inp k ≤ 31 ∧ ((n.ss.getD k sq0).kd = 0 → nxN n st inp k ≤ 1) := by
  have hq := (hn.sq _ (zbc (d := sq0) hk)).kind
  have hr := hso.rng k hk
  have hp := pk_rng (b := atB (valsL n st inp) (n.ss.getD k sq0).xs) (n.ss.getD k sq0).xs.length (fun q h1 => vals_at hn hso.len inp (hn.xs _ (zbc (d := sq0) hk)) h1)
  unfold nxN snC
  rcases hq with ⟨e, -, hl⟩ | ⟨e, -, hl⟩
  · rw [if_pos e]; omega
  · rw [if_neg (by omega)]
    rw [hl] at hp ⊢
    have h4 : (2 : Int) ^ 4 = 16 := by decide
    have := ram_lt (pk (atB (valsL n st inp) (n.ss.getD k sq0).xs) 4).toNat (by omega) (st.getD k 0).toNat (by omega)
    omega
theorem nx_ok {n : Nt} (hn : NtOk n) {st : List Int} (hso : StOk n st) (inp : Int) : StOk n (nxL n st inp n.ss.length) := ⟨nxL_len _ _ _ _, fun k hk => by rw [nxL_at hk]; exact nx_rng hn hso inp hk⟩
theorem nx_flop {n : Nt} (hn : NtOk n) {st : List Int} (hso : StOk n st) (inp : Int) {k : Nat} (hk : k < n.ss.length) (h0 : (n.ss.getD k sq0).kd = 0) : (nxL n st inp n.ss.length).getD k 0 = bitL (valsL n st inp) ((n.ss.getD k sq0).xs.getD 0 0) := by
  rw [nxL_at hk]
  have hq := (hn.sq _ (zbc (d := sq0) hk)).kind
  have hl : (n.ss.getD k sq0).xs.length = 1 := by omega
  have hb := vals_at hn hso.len inp (hn.xs _ (zbc (d := sq0) hk)) (q := 0) (by omega)
  unfold nxN snC
  rw [if_pos h0, hl]
  show (0 + atB (valsL n st inp) (n.ss.getD k sq0).xs 0 * 2 ^ 0) % 2 = atB (valsL n st inp) (n.ss.getD k sq0).xs 0
  rw [Int.pow_zero]; omega
theorem zet (n : Nt) (w : World) (hr : RdsNt w n) (hn : NtOk n) :
   Calls Try.prog 33 #[.agg #[.int .i64 n.ins, n.sv, n.av, n.ov]] w (Ret w (fun u_ p_ => ∃ zs : List Int, p_ = [rowE 3 1 u_ zs.length (zs.map (Value.int .i64))] ∧ zs.length = n.ss.length)) := by
 have hi0 := hn.i0
 have hi1 := hn.i1
 have hs1 := hn.s1
 have ha1 := hn.a1
 have ho1 := hn.o1
 have hcnt : n.cnt = 1 + n.ins + n.ss.length + n.gs.length := rfl
 have hfst : n.fst = 1 + n.ins + n.ss.length := rfl
 refine zba (N := 84) (args := [.agg #[.int .i64 n.ins, n.sv, n.av, n.ov]]) Try.func33 rfl rfl (srQ ?_)
 refine zea rfl (zcg rfl rfl) ?_
 intro b1
 refine zbf 1 rfl (srQ ?_)
 refine hrwQ rfl (zec (s := 1) rfl Try.underlying26 rfl) ?_
 intro g2
 refine zbf 1 rfl (ssrQ (hvQ rfl (zaz (cs := [.int .i64 n.ins, n.sv, n.av, n.ov]) rfl rfl rfl rfl rfl (zax 1 rfl 0 rfl)) ?_))
 refine zee rfl (zaj rfl rfl (fun w hm => zat (zdt n w (hr.below hm.bel) hn))) (zbf 1 rfl (zak rfl (zch (srQ ?_))))
 refine hrwQ rfl (zec (s := 1) rfl Try.underlying26 rfl) ?_
 intro g3
 refine zbf 1 rfl (zab (zbe 1 rfl (zau ?_)))
 refine lkQ4 (α := Nat) (β := List Int) (γ := List Int) (δ := Value × Value) [0, 1, 2, 12] rfl (fun i zs ys q => [rowE 3 1 q.2 ys.length (ys.map (Value.int .i64)), rowE 3 1 q.1 zs.length (zs.map (Value.int .i64)), boxE b1 #[.int .i64 n.ins, n.sv, n.av, n.ov] 28]) (fun i zs ys q => [(3, q.1), (4, q.2), (5, .int .i64 (i : Int))]) (fun i zs ys q => i ≤ n.ss.length ∧ zs = mnL (KiM n) i ∧ ys.length = i) (fun i zs ys q => n.ss.length - i) 0 [] [] (.slice (some ⟨g2, 0, none⟩) 0 0, .slice (some ⟨g3, 0, none⟩) 0 0) ⟨Nat.zero_le _, rfl, rfl⟩ (saQ rfl) (pfQ rfl) ?_
 intro i zs ys q hi4
 obtain ⟨hi, hz, hyl⟩ := hi4
 have hzl : zs.length = i := by rw [hz]; exact mnL_len _ _
 refine zab (zab (reQ 1 rfl (hvQ rfl (fdQ 1 rfl rfl rfl) (hvQ rfl (zae rfl rfl rfl (zac 2 rfl rfl)) (hvQ rfl (lnQ rfl rfl rfl (zaa hr.sq)) ?_)))))
 refine zbk rfl rfl rfl rfl rfl rfl (fun h5 => ?_) (fun h5 => ?_)
 ·
  refine ntQ (zan rfl (zch (sbQ (zab (reQ 2 rfl ?_)))))
  refine hrwQ rfl (zay (z := .int .i64 0) (s := 1) (cs := ([(i : Int)].map (Value.int .i64))) rfl Try.underlying26 rfl (by decide) rfl (by kernel_rfl) rfl) ?_
  intro g6
  refine zck (i := 1) (z := .int .i64 0) (bytes := 8) rfl rfl rfl rfl Try.underlying26 (by kernel_rfl) rfl rfl rfl rfl (zao 0 rfl) (zbv _) (by first | omega | (simp; done) | (simp; omega)) (zca ys ([(i : Int)])) (zby ys ([(i : Int)])) (fun _ => rfl) ?_
  intro v7
  refine zbf 1 rfl (zbe 2 rfl (zab (zab (reQ 1 rfl ?_))))
  refine hvQ rfl (vsQ rfl rfl rfl) (zbf 1 rfl (zau ?_))
  refine lkQ2 (α := Int) (β := Int) [0, 1, 2, 3, 4, 5, 12, 19] rfl (fun k kk => [rowE 3 1 (.slice (some ⟨g6, 0, none⟩) 1 1) 1 ([(i : Int)].map (Value.int .i64)), rowE 3 1 v7 ((ys ++ ([(i : Int)])).length) ((ys ++ ([(i : Int)])).map (Value.int .i64)), rowE 3 1 q.1 zs.length (zs.map (Value.int .i64)), boxE b1 #[.int .i64 n.ins, n.sv, n.av, n.ov] 28]) (fun k kk => [(6, .int .i64 kk), (7, .int .i64 k)]) (fun k kk => (-1 ≤ k ∧ k < (i : Int)) ∧ (0 ≤ kk ∧ kk ≤ (i : Int)) ∧ DnP (KiM n) i (k + 1).toNat kk.toNat) (fun k kk => (k + 1).toNat) ((i : Int) - 1) (i : Int) ⟨by omega, by omega, by rw [show ((i : Int) - 1 + 1).toNat = i by omega, Int.toNat_natCast]; exact DnP.start _ _⟩ (saQ rfl) (pfQ rfl) ?_
  intro k kk hi8
  obtain ⟨hk9, hkk, hdn⟩ := hi8
  refine zab (zab (reQ 1 rfl ?_))
  refine hl_geq rfl rfl rfl rfl rfl rfl (fun h9 => ?_) (fun h9 => ?_)
  ·
   refine ntQ (zan rfl (zch (sbQ (zab ?_))))
   rcases Bool.eq_false_or_eq_true (((n.ss.getD i sq0).kd) == 0) with hb10 | hb10
   ·
    have hb10p : (n.ss.getD i sq0).kd = 0 := beq_iff_eq.1 hb10
    rcases Bool.eq_false_or_eq_true (((n.ss.getD ((k).toNat) sq0).kd) == 0) with hb11 | hb11
    ·
     have hb11p : (n.ss.getD ((k).toNat) sq0).kd = 0 := beq_iff_eq.1 hb11
     rcases Bool.eq_false_or_eq_true (((n.ss.getD i sq0).it) == ((n.ss.getD ((k).toNat) sq0).it)) with hb12 | hb12
     ·
      have hb12p : (n.ss.getD i sq0).it = (n.ss.getD ((k).toNat) sq0).it := beq_iff_eq.1 hb12
      refine zbd 31 [[], [0], [], [1, 2], [3], [4], [5], [6], [7], [7, 8], [7], [7, 9, 10], [7, 11], [7, 12], [7, 13], [7, 14], [15], [16], [16, 17], [16], [16, 18, 19], [16, 20], [16, 21], [16], [16, 23], [16], [16, 24, 25], [16, 26], [16, 27], [16, 22, 28], [16, 29]] [33, 34, 35, 36, 37, 38, 39, 40, 41, 42, 43, 44, 45, 46, 47, 48, 49, 50, 51, 52, 53, 54, 55, 56, 57, 58, 59, 60, 61, 62, 63] [.pointer (some ⟨b1, 0 + 1, none⟩), n.sv, .int .i64 (i : Int), elP n.sv (((i : Int)).toNat * 3), elP n.sv (((i : Int)).toNat * 3 + 0), .int .i64 ((n.ss.getD i sq0).kd), .bool true, .bool true, .pointer (some ⟨b1, 0 + 1, none⟩), n.sv, .int .i64 k, elP n.sv ((k).toNat * 3), elP n.sv ((k).toNat * 3 + 0), .int .i64 ((n.ss.getD ((k).toNat) sq0).kd), .bool true, .bool true, .bool true, .pointer (some ⟨b1, 0 + 1, none⟩), n.sv, .int .i64 (i : Int), elP n.sv (((i : Int)).toNat * 3), elP n.sv (((i : Int)).toNat * 3 + 1), .int .i64 ((n.ss.getD i sq0).it), .pointer (some ⟨b1, 0 + 1, none⟩), n.sv, .int .i64 k, elP n.sv ((k).toNat * 3), elP n.sv ((k).toNat * 3 + 1), .int .i64 ((n.ss.getD ((k).toNat) sq0).it), .bool true, .bool true] (by kernel_rfl) rfl ?_ ?_
      ·
       exact ⟨iaQ rfl (fdQ 1 rfl rfl rfl) rfl, iaQ rfl (zae rfl rfl rfl (zac 3 rfl rfl)) rfl, iaQ rfl (zaf rfl) rfl, iaQ rfl (riQ 3 rfl rfl rfl rfl (zaa hr.sq)) rfl, iaQ rfl (zaw (k0 := 0) rfl rfl rfl (zaa hr.sq) (by omega)) rfl, iaQ rfl (zal (u := .int .i64 ((n.ss.getD i sq0).kd)) rfl rfl rfl (zaa hr.sq) ((zbj sqC 3 (fun _ => rfl) n.ss sq0 (show i < _ by omega) (by decide)).trans rfl)) rfl, .inl ⟨rfl, zbx (zbl rfl rfl rfl rfl) hb10⟩, iaQ rfl (zaf rfl) rfl, iaQ rfl (fdQ 1 rfl rfl rfl) rfl, iaQ rfl (zae rfl rfl rfl (zac 3 rfl rfl)) rfl, iaQ rfl (zaf rfl) rfl, iaQ rfl (riQ 3 rfl rfl rfl rfl (zaa hr.sq)) rfl, iaQ rfl (zaw (k0 := 0) rfl rfl rfl (zaa hr.sq) (by omega)) rfl, iaQ rfl (zal (u := .int .i64 ((n.ss.getD ((k).toNat) sq0).kd)) rfl rfl rfl (zaa hr.sq) ((zbj sqC 3 (fun _ => rfl) n.ss sq0 (show (k).toNat < _ by omega) (by decide)).trans rfl)) rfl, .inl ⟨rfl, zbx (zbl rfl rfl rfl rfl) hb11⟩, iaQ rfl (zaf rfl) rfl, iaQ rfl (zaf rfl) rfl, iaQ rfl (fdQ 1 rfl rfl rfl) rfl, iaQ rfl (zae rfl rfl rfl (zac 3 rfl rfl)) rfl, iaQ rfl (zaf rfl) rfl, iaQ rfl (riQ 3 rfl rfl rfl rfl (zaa hr.sq)) rfl, iaQ rfl (zaw (k0 := 1) rfl rfl rfl (zaa hr.sq) (by omega)) rfl, iaQ rfl (zal (u := .int .i64 ((n.ss.getD i sq0).it)) rfl rfl rfl (zaa hr.sq) ((zbj sqC 3 (fun _ => rfl) n.ss sq0 (show i < _ by omega) (by decide)).trans rfl)) rfl, iaQ rfl (fdQ 1 rfl rfl rfl) rfl, iaQ rfl (zae rfl rfl rfl (zac 3 rfl rfl)) rfl, iaQ rfl (zaf rfl) rfl, iaQ rfl (riQ 3 rfl rfl rfl rfl (zaa hr.sq)) rfl, iaQ rfl (zaw (k0 := 1) rfl rfl rfl (zaa hr.sq) (by omega)) rfl, iaQ rfl (zal (u := .int .i64 ((n.ss.getD ((k).toNat) sq0).it)) rfl rfl rfl (zaa hr.sq) ((zbj sqC 3 (fun _ => rfl) n.ss sq0 (show (k).toNat < _ by omega) (by decide)).trans rfl)) rfl, .inl ⟨rfl, zbx (zbl rfl rfl rfl rfl) hb12⟩, iaQ rfl (zaf rfl) rfl, trivial⟩
      simp only [List.drop_succ_cons, List.drop_zero]
      refine ntQ (zan rfl (zar (enQ 2 rfl (zcj (reQ 1 rfl (hvQ rfl (vsQ rfl rfl rfl) (zai 1 rfl ?_)))))))
      exact zbw (zbg (k - 1) k ⟨by omega, by omega, by rw [show (k - 1 + 1).toNat = k.toNat by omega]; exact DnP.hit (j := k.toNat) (by rw [show k.toNat + 1 = (k + 1).toNat by omega]; exact hdn) (by omega) ⟨⟨by omega, by omega⟩, by omega⟩⟩ (by omega) (saQ rfl) (pfQ rfl))
     have hb12p : (n.ss.getD i sq0).it ≠ (n.ss.getD ((k).toNat) sq0).it := beq_eq_false_iff_ne.1 hb12
     refine zbd 31 [[], [0], [], [1, 2], [3], [4], [5], [6], [7], [7, 8], [7], [7, 9, 10], [7, 11], [7, 12], [7, 13], [7, 14], [15], [16], [16, 17], [16], [16, 18, 19], [16, 20], [16, 21], [16], [16, 23], [16], [16, 24, 25], [16, 26], [16, 27], [16, 22, 28], [16, 29]] [33, 34, 35, 36, 37, 38, 39, 40, 41, 42, 43, 44, 45, 46, 47, 48, 49, 50, 51, 52, 53, 54, 55, 56, 57, 58, 59, 60, 61, 62, 63] [.pointer (some ⟨b1, 0 + 1, none⟩), n.sv, .int .i64 (i : Int), elP n.sv (((i : Int)).toNat * 3), elP n.sv (((i : Int)).toNat * 3 + 0), .int .i64 ((n.ss.getD i sq0).kd), .bool true, .bool true, .pointer (some ⟨b1, 0 + 1, none⟩), n.sv, .int .i64 k, elP n.sv ((k).toNat * 3), elP n.sv ((k).toNat * 3 + 0), .int .i64 ((n.ss.getD ((k).toNat) sq0).kd), .bool true, .bool true, .bool true, .pointer (some ⟨b1, 0 + 1, none⟩), n.sv, .int .i64 (i : Int), elP n.sv (((i : Int)).toNat * 3), elP n.sv (((i : Int)).toNat * 3 + 1), .int .i64 ((n.ss.getD i sq0).it), .pointer (some ⟨b1, 0 + 1, none⟩), n.sv, .int .i64 k, elP n.sv ((k).toNat * 3), elP n.sv ((k).toNat * 3 + 1), .int .i64 ((n.ss.getD ((k).toNat) sq0).it), .bool false, .bool false] (by kernel_rfl) rfl ?_ ?_
     ·
      exact ⟨iaQ rfl (fdQ 1 rfl rfl rfl) rfl, iaQ rfl (zae rfl rfl rfl (zac 3 rfl rfl)) rfl, iaQ rfl (zaf rfl) rfl, iaQ rfl (riQ 3 rfl rfl rfl rfl (zaa hr.sq)) rfl, iaQ rfl (zaw (k0 := 0) rfl rfl rfl (zaa hr.sq) (by omega)) rfl, iaQ rfl (zal (u := .int .i64 ((n.ss.getD i sq0).kd)) rfl rfl rfl (zaa hr.sq) ((zbj sqC 3 (fun _ => rfl) n.ss sq0 (show i < _ by omega) (by decide)).trans rfl)) rfl, .inl ⟨rfl, zbx (zbl rfl rfl rfl rfl) hb10⟩, iaQ rfl (zaf rfl) rfl, iaQ rfl (fdQ 1 rfl rfl rfl) rfl, iaQ rfl (zae rfl rfl rfl (zac 3 rfl rfl)) rfl, iaQ rfl (zaf rfl) rfl, iaQ rfl (riQ 3 rfl rfl rfl rfl (zaa hr.sq)) rfl, iaQ rfl (zaw (k0 := 0) rfl rfl rfl (zaa hr.sq) (by omega)) rfl, iaQ rfl (zal (u := .int .i64 ((n.ss.getD ((k).toNat) sq0).kd)) rfl rfl rfl (zaa hr.sq) ((zbj sqC 3 (fun _ => rfl) n.ss sq0 (show (k).toNat < _ by omega) (by decide)).trans rfl)) rfl, .inl ⟨rfl, zbx (zbl rfl rfl rfl rfl) hb11⟩, iaQ rfl (zaf rfl) rfl, iaQ rfl (zaf rfl) rfl, iaQ rfl (fdQ 1 rfl rfl rfl) rfl, iaQ rfl (zae rfl rfl rfl (zac 3 rfl rfl)) rfl, iaQ rfl (zaf rfl) rfl, iaQ rfl (riQ 3 rfl rfl rfl rfl (zaa hr.sq)) rfl, iaQ rfl (zaw (k0 := 1) rfl rfl rfl (zaa hr.sq) (by omega)) rfl, iaQ rfl (zal (u := .int .i64 ((n.ss.getD i sq0).it)) rfl rfl rfl (zaa hr.sq) ((zbj sqC 3 (fun _ => rfl) n.ss sq0 (show i < _ by omega) (by decide)).trans rfl)) rfl, iaQ rfl (fdQ 1 rfl rfl rfl) rfl, iaQ rfl (zae rfl rfl rfl (zac 3 rfl rfl)) rfl, iaQ rfl (zaf rfl) rfl, iaQ rfl (riQ 3 rfl rfl rfl rfl (zaa hr.sq)) rfl, iaQ rfl (zaw (k0 := 1) rfl rfl rfl (zaa hr.sq) (by omega)) rfl, iaQ rfl (zal (u := .int .i64 ((n.ss.getD ((k).toNat) sq0).it)) rfl rfl rfl (zaa hr.sq) ((zbj sqC 3 (fun _ => rfl) n.ss sq0 (show (k).toNat < _ by omega) (by decide)).trans rfl)) rfl, .inl ⟨rfl, zbx (zbl rfl rfl rfl rfl) hb12⟩, iaQ rfl (zaf rfl) rfl, trivial⟩
     simp only [List.drop_succ_cons, List.drop_zero]
     refine ntQ (fsQ rfl (zcj (reQ 1 rfl (hvQ rfl (vsQ rfl rfl rfl) (enQ 1 rfl ?_)))))
     exact zbg (k - 1) kk ⟨by omega, by omega, by rw [show (k - 1 + 1).toNat = k.toNat by omega]; exact DnP.miss (j := k.toNat) (by rw [show k.toNat + 1 = (k + 1).toNat by omega]; exact hdn) (fun h9 => by have h8 := h9.1; have h7 := h9.2; omega)⟩ (by omega) (saQ rfl) (pfQ rfl)
    have hb11p : (n.ss.getD ((k).toNat) sq0).kd ≠ 0 := beq_eq_false_iff_ne.1 hb11
    refine zbd 31 [[], [0], [], [1, 2], [3], [4], [5], [6], [7], [7, 8], [7], [7, 9, 10], [7, 11], [7, 12], [7, 13], [7, 14], [15], [16], [16], [16], [16], [16], [16], [16], [16], [16], [16], [16], [16], [16], [16, 29]] [33, 34, 35, 36, 37, 38, 39, 40, 41, 42, 43, 44, 45, 46, 47, 48, 49, 50, 51, 52, 53, 54, 55, 56, 57, 58, 59, 60, 61, 62, 63] [.pointer (some ⟨b1, 0 + 1, none⟩), n.sv, .int .i64 (i : Int), elP n.sv (((i : Int)).toNat * 3), elP n.sv (((i : Int)).toNat * 3 + 0), .int .i64 ((n.ss.getD i sq0).kd), .bool true, .bool true, .pointer (some ⟨b1, 0 + 1, none⟩), n.sv, .int .i64 k, elP n.sv ((k).toNat * 3), elP n.sv ((k).toNat * 3 + 0), .int .i64 ((n.ss.getD ((k).toNat) sq0).kd), .bool false, .bool false, .bool false, undef, undef, undef, undef, undef, undef, undef, undef, undef, undef, undef, undef, undef, .bool false] (by kernel_rfl) rfl ?_ ?_
    ·
     exact ⟨iaQ rfl (fdQ 1 rfl rfl rfl) rfl, iaQ rfl (zae rfl rfl rfl (zac 3 rfl rfl)) rfl, iaQ rfl (zaf rfl) rfl, iaQ rfl (riQ 3 rfl rfl rfl rfl (zaa hr.sq)) rfl, iaQ rfl (zaw (k0 := 0) rfl rfl rfl (zaa hr.sq) (by omega)) rfl, iaQ rfl (zal (u := .int .i64 ((n.ss.getD i sq0).kd)) rfl rfl rfl (zaa hr.sq) ((zbj sqC 3 (fun _ => rfl) n.ss sq0 (show i < _ by omega) (by decide)).trans rfl)) rfl, .inl ⟨rfl, zbx (zbl rfl rfl rfl rfl) hb10⟩, iaQ rfl (zaf rfl) rfl, iaQ rfl (fdQ 1 rfl rfl rfl) rfl, iaQ rfl (zae rfl rfl rfl (zac 3 rfl rfl)) rfl, iaQ rfl (zaf rfl) rfl, iaQ rfl (riQ 3 rfl rfl rfl rfl (zaa hr.sq)) rfl, iaQ rfl (zaw (k0 := 0) rfl rfl rfl (zaa hr.sq) (by omega)) rfl, iaQ rfl (zal (u := .int .i64 ((n.ss.getD ((k).toNat) sq0).kd)) rfl rfl rfl (zaa hr.sq) ((zbj sqC 3 (fun _ => rfl) n.ss sq0 (show (k).toNat < _ by omega) (by decide)).trans rfl)) rfl, .inl ⟨rfl, zbx (zbl rfl rfl rfl rfl) hb11⟩, iaQ rfl (zaf rfl) rfl, iaQ rfl (zaf rfl) rfl, .inr ⟨rfl, rfl⟩, .inr ⟨rfl, rfl⟩, .inr ⟨rfl, rfl⟩, .inr ⟨rfl, rfl⟩, .inr ⟨rfl, rfl⟩, .inr ⟨rfl, rfl⟩, .inr ⟨rfl, rfl⟩, .inr ⟨rfl, rfl⟩, .inr ⟨rfl, rfl⟩, .inr ⟨rfl, rfl⟩, .inr ⟨rfl, rfl⟩, .inr ⟨rfl, rfl⟩, .inr ⟨rfl, rfl⟩, iaQ rfl (zaf rfl) rfl, trivial⟩
    simp only [List.drop_succ_cons, List.drop_zero]
    refine ntQ (fsQ rfl (zcj (reQ 1 rfl (hvQ rfl (vsQ rfl rfl rfl) (enQ 1 rfl ?_)))))
    exact zbg (k - 1) kk ⟨by omega, by omega, by rw [show (k - 1 + 1).toNat = k.toNat by omega]; exact DnP.miss (j := k.toNat) (by rw [show k.toNat + 1 = (k + 1).toNat by omega]; exact hdn) (fun h9 => by have h8 := h9.1; have h7 := h9.2; omega)⟩ (by omega) (saQ rfl) (pfQ rfl)
   have hb10p : (n.ss.getD i sq0).kd ≠ 0 := beq_eq_false_iff_ne.1 hb10
   refine zbd 31 [[], [0], [], [1, 2], [3], [4], [5], [6], [7], [7], [7], [7], [7], [7], [7], [7, 14], [15], [16], [16], [16], [16], [16], [16], [16], [16], [16], [16], [16], [16], [16], [16, 29]] [33, 34, 35, 36, 37, 38, 39, 40, 41, 42, 43, 44, 45, 46, 47, 48, 49, 50, 51, 52, 53, 54, 55, 56, 57, 58, 59, 60, 61, 62, 63] [.pointer (some ⟨b1, 0 + 1, none⟩), n.sv, .int .i64 (i : Int), elP n.sv (((i : Int)).toNat * 3), elP n.sv (((i : Int)).toNat * 3 + 0), .int .i64 ((n.ss.getD i sq0).kd), .bool false, .bool false, undef, undef, undef, undef, undef, undef, undef, .bool false, .bool false, undef, undef, undef, undef, undef, undef, undef, undef, undef, undef, undef, undef, undef, .bool false] (by kernel_rfl) rfl ?_ ?_
   ·
    exact ⟨iaQ rfl (fdQ 1 rfl rfl rfl) rfl, iaQ rfl (zae rfl rfl rfl (zac 3 rfl rfl)) rfl, iaQ rfl (zaf rfl) rfl, iaQ rfl (riQ 3 rfl rfl rfl rfl (zaa hr.sq)) rfl, iaQ rfl (zaw (k0 := 0) rfl rfl rfl (zaa hr.sq) (by omega)) rfl, iaQ rfl (zal (u := .int .i64 ((n.ss.getD i sq0).kd)) rfl rfl rfl (zaa hr.sq) ((zbj sqC 3 (fun _ => rfl) n.ss sq0 (show i < _ by omega) (by decide)).trans rfl)) rfl, .inl ⟨rfl, zbx (zbl rfl rfl rfl rfl) hb10⟩, iaQ rfl (zaf rfl) rfl, .inr ⟨rfl, rfl⟩, .inr ⟨rfl, rfl⟩, .inr ⟨rfl, rfl⟩, .inr ⟨rfl, rfl⟩, .inr ⟨rfl, rfl⟩, .inr ⟨rfl, rfl⟩, .inr ⟨rfl, rfl⟩, iaQ rfl (zaf rfl) rfl, iaQ rfl (zaf rfl) rfl, .inr ⟨rfl, rfl⟩, .inr ⟨rfl, rfl⟩, .inr ⟨rfl, rfl⟩, .inr ⟨rfl, rfl⟩, .inr ⟨rfl, rfl⟩, .inr ⟨rfl, rfl⟩, .inr ⟨rfl, rfl⟩, .inr ⟨rfl, rfl⟩, .inr ⟨rfl, rfl⟩, .inr ⟨rfl, rfl⟩, .inr ⟨rfl, rfl⟩, .inr ⟨rfl, rfl⟩, .inr ⟨rfl, rfl⟩, iaQ rfl (zaf rfl) rfl, trivial⟩
   simp only [List.drop_succ_cons, List.drop_zero]
   refine ntQ (fsQ rfl (zcj (reQ 1 rfl (hvQ rfl (vsQ rfl rfl rfl) (enQ 1 rfl ?_)))))
   exact zbg (k - 1) kk ⟨by omega, by omega, by rw [show (k - 1 + 1).toNat = k.toNat by omega]; exact DnP.miss (j := k.toNat) (by rw [show k.toNat + 1 = (k + 1).toNat by omega]; exact hdn) (fun h9 => by have h8 := h9.1; have h7 := h9.2; omega)⟩ (by omega) (saQ rfl) (pfQ rfl)
  refine ntQ (zak rfl ?_)
  refine zbb (zda ?_)
  refine zad (zas (reQ 2 rfl ?_))
  refine hrwQ rfl (zay (z := .int .i64 0) (s := 1) (cs := ([kk].map (Value.int .i64))) rfl Try.underlying26 rfl (by decide) rfl (by kernel_rfl) rfl) ?_
  intro g13
  refine zck (i := 3) (z := .int .i64 0) (bytes := 8) rfl rfl rfl rfl Try.underlying26 (by kernel_rfl) rfl rfl rfl rfl (zao 0 rfl) (zbv _) (by first | omega | (simp; done) | (simp; omega)) (zca zs ([kk])) (zby zs ([kk])) (fun _ => rfl) ?_
  intro v14
  refine enQ 1 rfl (zcj (reQ 1 rfl (hvQ rfl (vaQ rfl rfl rfl) (enQ 1 rfl ?_))))
  have hdn9 : DnP (KiM n) i 0 kk.toNat := by rw [show (k + 1).toNat = 0 by omega] at hdn; exact hdn
  have hkm : kk = (mnI (KiM n) i : Int) := by have h9 := hdn9.fin; omega
  exact hq_round4 (i + 1) (zs ++ ([kk])) (ys ++ ([(i : Int)])) (v14, v7) ⟨by omega, by rw [mnL_succ, ← hz, ← hkm], by rw [List.length_append, List.length_singleton]; omega⟩ (by omega) (saQ rfl) (slQ [2, 0, 0] rfl)
 refine ntQ (zak rfl ?_)
 refine zbb (zda ?_)
 refine zad (zas (zau ?_))
 have hze : zs = mnL (KiM n) n.ss.length := by rw [hz, show i = n.ss.length by omega]
 rw [hze]
 refine lkQ2 (α := List Int) (β := Value) [0, 1, 2, 4, 12, 19] rfl (fun cs v => [rowE 3 1 q.2 ys.length (ys.map (Value.int .i64)), rowE 3 1 v cs.length (cs.map (Value.int .i64)), boxE b1 #[.int .i64 n.ins, n.sv, n.av, n.ov] 28]) (fun cs v => [(3, v)]) (fun cs v => ClQ n.ss.length cs) (fun cs v => n.ss.length + 1 - rpN cs) (mnL (KiM n) n.ss.length) _ (mnL_ok KiM.tr _) (saQ rfl) (pfQ rfl) ?_
 intro cs v hi15
 have hq := hi15
 have hcl := hq.len
 have hrp := rpN_le hcl
 refine zau (zab (zab ?_))
 rcases Bool.eq_false_or_eq_true (decide (10 < n.ins + (rpN cs : Int))) with hb16 | hb16
 ·
  have hb16p : 10 < n.ins + (rpN cs : Int) := of_decide_eq_true hb16
  refine zbd 6 [[], [0], [], [2], [1, 3], [4]] [69, 70, 71, 72, 73, 74] [.pointer (some ⟨b1, 0 + 0, none⟩), .int .i64 n.ins, v, .int .i64 (rpN cs : Int), .int .i64 (n.ins + (rpN cs : Int)), .bool true] (by kernel_rfl) rfl ?_ ?_
  ·
   exact ⟨iaQ rfl (fdQ 0 rfl rfl rfl) rfl, iaQ rfl (zae rfl rfl rfl (zac 2 rfl rfl)) rfl, iaQ rfl (zaf rfl) rfl, .inl ⟨rfl, zaj rfl rfl (fun w hm => zat (zdo cs v w ((zao 1 rfl) w hm)))⟩, iaQ rfl (vaQ rfl rfl rfl) rfl, .inl ⟨rfl, zbx (zbl rfl rfl rfl rfl) hb16⟩, trivial⟩
  simp only [List.drop_succ_cons, List.drop_zero]
  refine ntQ (zan rfl (zbe 2 rfl ?_))
  refine zav (zam ?_)
  refine zah (zam ?_)
  exact zah (zcw (post := [rowE 3 1 q.2 ys.length (ys.map (Value.int .i64))]) rfl rfl (slQ [0] rfl) ⟨_, rfl, by first | exact hq.len | omega⟩)
 have hb16p : ¬ (10 < n.ins + (rpN cs : Int)) := of_decide_eq_false hb16
 refine zbd 6 [[], [0], [], [2], [1, 3], [4]] [69, 70, 71, 72, 73, 74] [.pointer (some ⟨b1, 0 + 0, none⟩), .int .i64 n.ins, v, .int .i64 (rpN cs : Int), .int .i64 (n.ins + (rpN cs : Int)), .bool false] (by kernel_rfl) rfl ?_ ?_
 ·
  exact ⟨iaQ rfl (fdQ 0 rfl rfl rfl) rfl, iaQ rfl (zae rfl rfl rfl (zac 2 rfl rfl)) rfl, iaQ rfl (zaf rfl) rfl, .inl ⟨rfl, zaj rfl rfl (fun w hm => zat (zdo cs v w ((zao 1 rfl) w hm)))⟩, iaQ rfl (vaQ rfl rfl rfl) rfl, .inl ⟨rfl, zbx (zbl rfl rfl rfl rfl) hb16⟩, trivial⟩
 simp only [List.drop_succ_cons, List.drop_zero]
 refine ntQ (zak rfl (zch (srQ (hvQ rfl (zaz (cs := [.int .i64 n.ins, n.sv, n.av, n.ov]) rfl rfl rfl rfl rfl (zax 2 rfl 0 rfl)) (zai 1 rfl ?_)))))
 refine hl_q rfl rfl rfl (zaj rfl rfl (fun w hm => l16Refine_ret n cs v w (hr.below hm.bel) hn ((zao 1 rfl) w hm) hq (by omega))) ?_
 intro v17 p18 hR19
 subst hR19
 refine zbf 1 rfl (zab (zab (reQ 2 rfl ?_)))
 refine zee rfl (zaj rfl rfl (fun w hm => zat (l16Same_ans cs (rfL n cs) _ _ w ((zao 2 rfl) w hm) ((zao 0 rfl) w hm) (by rw [hcl, (rfL_ok n cs).len])))) (zbo (fun h20 => ?_) (fun h20 => ?_))
 ·
  have h20p := of_decide_eq_true h20
  refine ntQ (zan rfl (zbe 2 rfl ?_))
  refine zav (zam ?_)
  refine zah (zam ?_)
  exact zah (zcw (post := [rowE 3 1 v cs.length (cs.map (Value.int .i64))]) rfl rfl (slQ [2] rfl) ⟨_, rfl, by first | exact hq.len | omega⟩)
 have h20p := of_decide_eq_false h20
 refine ntQ (zak rfl (zch (zar (enQ 2 rfl (zdf ?_)))))
 refine zcb 4 [3, 0, 1] rfl rfl (by decide) ?_
 exact zbg (rfL n cs) v17 (rfL_ok n cs) (by have h9 := rf_more hq (fun h9 => (show ¬ cs = rfL n cs by assumption) h9.symm); have h8 := rpN_le (rfL_ok n cs).len; omega) (saQ rfl) (pfQ rfl)
theorem zcx (cs : List Int) (v : Value) (w : World) (hv : RdsW w v 1 cs.length (cs.map (Value.int .i64))) :
   Calls Try.prog 21 #[v] w (Ans w (.int .i64 (rpN cs : Int))) := by
 have hv9 := sml hv
 refine zba (N := 20) (args := [v]) Try.func21 rfl rfl (zbe 1 rfl (zbe 1 rfl (zab ?_)))
 refine zab (reQ 1 rfl (hvQ rfl (lnQ rfl rfl rfl (zaa hv)) (zbf 1 rfl (zau ?_))))
 refine lkQ2 (α := Nat) (β := Int) [0, 2, 6, 7] rfl (fun i c => []) (fun i c => [(3, .int .i64 c), (8, .int .i64 (i : Int))]) (fun i c => i ≤ cs.length ∧ c = ((rpA cs i).length : Int)) (fun i c => cs.length - i) 0 0 ⟨Nat.zero_le _, rfl⟩ (saQ rfl) (.slnil) ?_
 intro i c hi1
 obtain ⟨hi, hc⟩ := hi1
 have hrl := rpA_le cs i
 refine srQ ?_
 refine zbk rfl rfl rfl rfl rfl rfl (fun h2 => ?_) (fun h2 => ?_)
 ·
  refine ntQ (tcQ rfl (zch (sbQ (zab (reQ 1 rfl (hvQ rfl (riQ 1 rfl rfl rfl rfl (zaa hv)) (hvQ rfl (liQ rfl rfl rfl (zaa hv)) ?_)))))))
  refine zbf 2 rfl (zab (reQ 2 rfl ?_))
  refine zcs rfl rfl rfl rfl rfl rfl (fun h3 => ?_) (fun h3 => ?_)
  ·
   refine ntQ (zan rfl (reQ 1 rfl (hvQ rfl (vaQ rfl rfl rfl) (enQ 1 rfl (zcj (zar (hvQ rfl (vaQ rfl rfl rfl) ?_)))))))
   refine enQ 1 rfl ?_
   exact zbg (i + 1) (c + 1) ⟨by omega, by first | (rw [zdd (show cs.getD i 0 = (i : Int) by assumption), List.length_append, List.length_singleton]; omega) | (rw [rpA_no (by assumption)]; omega)⟩ (by omega) (saQ rfl) (.slnil)
  refine ntQ (fsQ rfl (zcj (zar (hvQ rfl (vaQ rfl rfl rfl) (enQ 1 rfl ?_)))))
  exact zbg (i + 1) c ⟨by omega, by first | (rw [zdd (show cs.getD i 0 = (i : Int) by assumption), List.length_append, List.length_singleton]; omega) | (rw [rpA_no (by assumption)]; omega)⟩ (by omega) (saQ rfl) (.slnil)
 refine ntQ (fcQ rfl ?_)
 refine zbb (zda ?_)
 refine zad (zas (zbe 2 rfl ?_))
 exact zav (zbi rfl rfl (by rw [hc, show i = cs.length by omega]; rfl))
theorem zdk (n : Nt) (cs : List Int) (v : Value) (w : World) (hr : RdsNt w n) (hn : NtOk n) (hv : RdsW w v 1 cs.length (cs.map (Value.int .i64))) :
   Calls Try.prog 20 #[.agg #[.int .i64 n.ins, n.sv, n.av, n.ov], v] w (Ans w (.bool (pB (ClP n cs)))) := by
 have hi0 := hn.i0
 have hi1 := hn.i1
 have hs1 := hn.s1
 have ha1 := hn.a1
 have ho1 := hn.o1
 have hcnt : n.cnt = 1 + n.ins + n.ss.length + n.gs.length := rfl
 have hfst : n.fst = 1 + n.ins + n.ss.length := rfl
 have hv9 := sml hv
 refine zba (N := 61) (args := [.agg #[.int .i64 n.ins, n.sv, n.av, n.ov], v]) Try.func20 rfl rfl (srQ ?_)
 refine zea rfl (zcg rfl rfl) ?_
 intro b1
 refine zbf 1 rfl (ssrQ (hvQ rfl (zaz (cs := [.int .i64 n.ins, n.sv, n.av, n.ov]) rfl rfl rfl rfl rfl (zax 0 rfl 0 rfl)) ?_))
 refine zee rfl (zaj rfl rfl (fun w hm => zat (zdw n w (hr.below hm.bel) hn))) (zai 3 rfl (hvQ rfl (lnQ rfl rfl rfl (zaa hv)) (hvQ rfl (fdQ 1 rfl rfl rfl) (hvQ rfl (zae rfl rfl rfl (zac 0 rfl rfl)) (hvQ rfl (lnQ rfl rfl rfl (zaa hr.sq)) ?_)))))
 refine zeq rfl rfl rfl rfl rfl rfl (fun h2 => ?_) (fun h2 => ?_)
 ·
  refine zbf 1 rfl (zan rfl (zbe 1 rfl ?_))
  refine zav (zam ?_)
  exact zbi rfl rfl (congrArg _ (zei (fun hp => by first | (have h9 := hp.q.len; omega) | (have h9 := (hp.q.cl i (by omega)).1; omega) | (have h9 := (hp.q.cl i (by omega)).2; omega) | (have h9 := hp.fl i (by have h8 := hp.q.len; omega) (by omega); omega))).symm)
 refine zbf 1 rfl (zak rfl (zch (zab (zab (reQ 1 rfl (hvQ rfl (lnQ rfl rfl rfl (zaa hv)) (zai 1 rfl (?_))))))))
 refine ntQ (zau ?_)
 refine lkQ1 (α := Nat) [0, 1, 2, 4, 17, 18, 19] rfl (fun i => [boxE b1 #[.int .i64 n.ins, n.sv, n.av, n.ov] 28]) (fun i => [(20, .int .i64 (i : Int))]) (fun i => i ≤ cs.length ∧ ∀ q, q < i → ((0 ≤ cs.getD q 0 ∧ cs.getD q 0 ≤ (q : Int)) ∧ cs.getD (cs.getD q 0).toNat 0 = cs.getD q 0) ∧ (cs.getD q 0 ≠ (q : Int) → (n.ss.getD q sq0).kd = 0 ∧ (n.ss.getD (cs.getD q 0).toNat sq0).kd = 0)) (fun i => cs.length - i) 0 ⟨Nat.zero_le _, fun q hq => absurd hq (by omega)⟩ (saQ rfl) (pfQ rfl) ?_
 intro i hi3
 obtain ⟨hi, hall⟩ := hi3
 refine srQ ?_
 refine zbk rfl rfl rfl rfl rfl rfl (fun h4 => ?_) (fun h4 => ?_)
 ·
  refine ntQ (tcQ rfl (zch (sbQ (zab (reQ 1 rfl (hvQ rfl (riQ 1 rfl rfl rfl rfl (zaa hv)) (hvQ rfl (liQ rfl rfl rfl (zaa hv)) ?_)))))))
  refine zbf 2 rfl (zab (reQ 2 rfl ?_))
  refine zee rfl (zaj rfl rfl (fun w hm => zat (ans_of (zci _ _ _ w)))) (zbo (fun h5 => ?_) (fun h5 => ?_))
  ·
   obtain ⟨h5a, h5b⟩ := (zcn _ _ _).1 h5
   refine zai 4 rfl (hvQ rfl (riQ 1 rfl rfl rfl rfl (zaa hv)) (hvQ rfl (lzQ rfl rfl rfl (zaa hv)) (zai 1 rfl ?_)))
   refine zeq rfl rfl rfl rfl rfl rfl (fun h6 => ?_) (fun h6 => ?_)
   ·
    refine zbf 24 rfl (zan rfl (srQ (enQ 1 rfl ?_)))
    refine zas (zav ?_)
    refine zah (rt2Q ?_)
    refine zah (zam ?_)
    exact zbi rfl rfl (congrArg _ (zei (fun hp => by first | (have h9 := hp.q.len; omega) | (have h9 := (hp.q.cl i (by omega)).1; omega) | (have h9 := (hp.q.cl i (by omega)).2; omega) | (have h9 := hp.fl i (by have h8 := hp.q.len; omega) (by omega); omega))).symm)
   refine zai 4 rfl (zeq rfl rfl rfl rfl rfl rfl (fun h7 => ?_) (fun h7 => ?_))
   ·
    refine zai 1 rfl (hvQ rfl (fdQ 1 rfl rfl rfl) (hvQ rfl (zae rfl rfl rfl (zac 0 rfl rfl)) (zai 1 rfl (hvQ rfl (riQ 3 rfl rfl rfl rfl (zaa hr.sq)) (hvQ rfl (zaw (k0 := 0) rfl rfl rfl (zaa hr.sq) (by omega)) ?_)))))
    refine hvQ rfl (zal (u := .int .i64 ((n.ss.getD i sq0).kd)) rfl rfl rfl (zaa hr.sq) ((zbj sqC 3 (fun _ => rfl) n.ss sq0 (show i < _ by omega) (by decide)).trans rfl)) (zeq rfl rfl rfl rfl rfl rfl (fun h8 => ?_) (fun h8 => ?_))
    ·
     refine zbf 11 rfl (zan rfl (zab ?_))
     refine zar (zbf 1 rfl ?_)
     refine zav (zah ?_)
     refine rt2Q ?_
     refine zah (zam ?_)
     exact zbi rfl rfl (congrArg _ (zei (fun hp => by first | (have h9 := hp.q.len; omega) | (have h9 := (hp.q.cl i (by omega)).1; omega) | (have h9 := (hp.q.cl i (by omega)).2; omega) | (have h9 := hp.fl i (by have h8 := hp.q.len; omega) (by omega); omega))).symm)
    refine zai 1 rfl (hvQ rfl (fdQ 1 rfl rfl rfl) (hvQ rfl (zae rfl rfl rfl (zac 0 rfl rfl)) (zai 1 rfl (hvQ rfl (riQ 3 rfl rfl rfl rfl (zaa hr.sq)) (hvQ rfl (zaw (k0 := 0) rfl rfl rfl (zaa hr.sq) (by omega)) ?_)))))
    refine hvQ rfl (zal (u := .int .i64 ((n.ss.getD ((cs.getD i 0).toNat) sq0).kd)) rfl rfl rfl (zaa hr.sq) ((zbj sqC 3 (fun _ => rfl) n.ss sq0 (show (cs.getD i 0).toNat < _ by omega) (by decide)).trans rfl)) (zeq rfl rfl rfl rfl rfl rfl (fun h9 => ?_) (fun h9 => ?_))
    ·
     refine zbf 3 rfl (zan rfl (zbe 1 rfl ?_))
     refine zav (zah ?_)
     refine rt2Q ?_
     refine zah (zam ?_)
     exact zbi rfl rfl (congrArg _ (zei (fun hp => by first | (have h9 := hp.q.len; omega) | (have h9 := (hp.q.cl i (by omega)).1; omega) | (have h9 := (hp.q.cl i (by omega)).2; omega) | (have h9 := hp.fl i (by have h8 := hp.q.len; omega) (by omega); omega))).symm)
    refine zbf 3 rfl (fsQ rfl (zcj (zar (hvQ rfl (vaQ rfl rfl rfl) (enQ 1 rfl ?_)))))
    exact zbr (i + 1) ⟨by omega, fun q hq => by by_cases e : q = i; (subst e; exact ⟨⟨⟨by omega, by omega⟩, by omega⟩, fun h9 => ⟨by omega, by omega⟩⟩); exact hall q (by omega)⟩ (by omega) (saQ rfl) (pfQ rfl)
   refine zbf 19 rfl (fsQ rfl (zcj (zar (hvQ rfl (vaQ rfl rfl rfl) (zai 1 rfl (?_))))))
   exact zbw (zbr (i + 1) ⟨by omega, fun q hq => by by_cases e : q = i; (subst e; exact ⟨⟨⟨by omega, by omega⟩, by omega⟩, fun h9 => ⟨by omega, by omega⟩⟩); exact hall q (by omega)⟩ (by omega) (saQ rfl) (pfQ rfl))
  have h5a := inR_notC h5
  refine zbf 32 rfl (zan rfl ?_)
  refine zbe 1 rfl ?_
  refine zav (zah ?_)
  refine rt2Q ?_
  refine zah (zam ?_)
  exact zbi rfl rfl (congrArg _ (zei (fun hp => by first | (have h9 := hp.q.len; omega) | (have h9 := (hp.q.cl i (by omega)).1; omega) | (have h9 := (hp.q.cl i (by omega)).2; omega) | (have h9 := hp.fl i (by have h8 := hp.q.len; omega) (by omega); omega))).symm)
 refine ntQ (fcQ rfl ?_)
 refine zbb (zda ?_)
 refine zad (zas (zbe 1 rfl ?_))
 exact zav (zbi rfl rfl (congrArg _ (pB_yes ⟨⟨by omega, fun q hq => (hall q (by omega)).1⟩, fun q hq => (hall q (by omega)).2⟩).symm))
theorem inBits_ret (n : Nt) (cs : List Int) (v : Value) (w : World) (hr : RdsNt w n) (hn : NtOk n) (hv : RdsW w v 1 cs.length (cs.map (Value.int .i64))) (hq : ClQ n.ss.length cs) (hf : n.ins + rpN cs ≤ 10) :
   Calls Try.prog 22 #[.agg #[.int .i64 n.ins, n.sv, n.av, n.ov], v] w (Ret w (fun u_ p_ => ∃ B : List Br, p_ = [rowE 9 1 u_ B.length (B.flatMap brC)] ∧ SrP n cs B n.ss.length)) := by
 have hi0 := hn.i0
 have hi1 := hn.i1
 have hs1 := hn.s1
 have ha1 := hn.a1
 have ho1 := hn.o1
 have hcnt : n.cnt = 1 + n.ins + n.ss.length + n.gs.length := rfl
 have hfst : n.fst = 1 + n.ins + n.ss.length := rfl
 have hcl := hq.len
 have hrp := rpN_le hcl
 have hcq := cases_le hi0 hf
 refine zba (N := 110) (args := [.agg #[.int .i64 n.ins, n.sv, n.av, n.ov], v]) Try.func22 rfl rfl (srQ ?_)
 refine zea rfl (zcg rfl rfl) ?_
 intro b1
 refine zbf 1 rfl (zab ?_)
 refine zbd 5 [[], [0], [], [2], [1, 3]] [18, 19, 20, 21, 22] [.pointer (some ⟨b1, 0 + 0, none⟩), .int .i64 n.ins, v, .int .i64 (rpN cs : Int), .int .i64 (n.ins + (rpN cs : Int))] (by kernel_rfl) rfl ?_ ?_
 ·
  exact ⟨iaQ rfl (fdQ 0 rfl rfl rfl) rfl, iaQ rfl (zae rfl rfl rfl (zac 0 rfl rfl)) rfl, iaQ rfl (zaf rfl) rfl, .inl ⟨rfl, zaj rfl rfl (fun w hm => zat (zcx cs v w (hv.below hm.bel)))⟩, iaQ rfl (vaQ rfl rfl rfl) rfl, trivial⟩
 simp only [List.drop_succ_cons, List.drop_zero]
 refine zbf 1 rfl (srQ (hvQ rfl (fdQ 1 rfl rfl rfl) (hvQ rfl (zae rfl rfl rfl (zac 0 rfl rfl)) (hvQ rfl (lnQ rfl rfl rfl (zaa hr.sq)) ?_))))
 refine hrwQ rfl (rq_make (z := .slice none 0 0) (s := 1) (bytes := 24) (n := (List.replicate n.ss.length br0).length) (cs := ((List.replicate n.ss.length br0).flatMap brC)) rfl Try.underlying59 rfl (by decide) rfl rfl (by first | (rw [List.length_replicate]; done) | (rw [List.length_replicate]; omega)) (by first | (rw [List.length_replicate]; done) | (rw [List.length_replicate]; omega)) (by rw [List.length_replicate]; omega) (made_flat brC 1 (fun _ => rfl) br0 _ rfl n.ss.length)) ?_
 intro g2
 refine zbf 1 rfl (srQ (hvQ rfl (fdQ 1 rfl rfl rfl) (hvQ rfl (zae rfl rfl rfl (zac 1 rfl rfl)) (hvQ rfl (lnQ rfl rfl rfl (zaa hr.sq)) ?_))))
 refine hrwQ rfl (rq_make (z := .int .i64 0) (s := 1) (bytes := 8) (n := (List.replicate n.ss.length (0 : Int)).length) (cs := ((List.replicate n.ss.length (0 : Int)).map (Value.int .i64))) rfl Try.underlying26 rfl (by decide) rfl rfl (by first | (rw [List.length_replicate]; done) | (rw [List.length_replicate]; omega)) (by first | (rw [List.length_replicate]; done) | (rw [List.length_replicate]; omega)) (by rw [List.length_replicate]; omega) (ints_make _)) ?_
 intro g3
 refine zbf 1 rfl (zab (zbe 1 rfl (zau ?_)))
 refine zey [bigE ((List.replicate n.ss.length br0).map brPart), rowE 3 1 (.slice (some ⟨g3, 0, none⟩) ((List.replicate n.ss.length (0 : Int)).length) ((List.replicate n.ss.length (0 : Int)).length)) ((List.replicate n.ss.length (0 : Int)).length) ((List.replicate n.ss.length (0 : Int)).map (Value.int .i64)), rowE 22 1 (.slice (some ⟨g2, 0, none⟩) ((List.replicate n.ss.length br0).length) ((List.replicate n.ss.length br0).length)) ((List.replicate n.ss.length br0).length) ((List.replicate n.ss.length br0).flatMap brC), boxE b1 #[.int .i64 n.ins, n.sv, n.av, n.ov] 28] (fun w hm => hm.brNil n.ss.length) ?_
 refine lkQ3 (α := Nat) (β := List Br) (γ := List Int) [0, 1, 2, 4, 5, 6, 7] rfl (fun x D1 zs => [bigE (D1.map brPart), rowE 3 1 (.slice (some ⟨g3, 0, none⟩) ((List.replicate n.ss.length (0 : Int)).length) ((List.replicate n.ss.length (0 : Int)).length)) zs.length (zs.map (Value.int .i64)), rowE 22 1 (.slice (some ⟨g2, 0, none⟩) ((List.replicate n.ss.length br0).length) ((List.replicate n.ss.length br0).length)) D1.length (D1.flatMap brC), boxE b1 #[.int .i64 n.ins, n.sv, n.av, n.ov] 28]) (fun x D1 zs => [(8, .int .i64 (x : Int))]) (fun x D1 zs => x ≤ cases2 n cs ∧ BrP n cs D1 x 0 ∧ zs.length = n.ss.length) (fun x D1 zs => cases2 n cs - x) 0 (List.replicate n.ss.length br0) (List.replicate n.ss.length 0) ⟨Nat.zero_le _, BrP.start n cs, List.length_replicate⟩ (saQ rfl) (pfQ rfl) ?_
 intro x D1 zs hi4
 obtain ⟨hx, hbr, hzl⟩ := hi4
 refine zab (zab (zar (zai 2 rfl (hvQ rfl (rv_conv rfl Try.underlying3 Try.underlying60 rfl (IntWalk.u64_in _ (by omega))) (hvQ rfl (rv_shlG (k := .i64) (kk := .u64) (r := (cases2 n cs : Int)) rfl rfl rfl rfl (by omega) (by rw [cases_eq hi0]; exact IntWalk.i64_in _ (by constructor <;> omega))) ?_)))))
 refine zbk rfl rfl rfl rfl rfl rfl (fun h5 => ?_) (fun h5 => ?_)
 ·
  refine ntQ (zan rfl (zch (sbQ (srQ (hvQ rfl (fdQ 0 rfl rfl rfl) (hvQ rfl (zae rfl rfl rfl (zac 3 rfl rfl)) (zai 1 rfl (?_))))))))
  refine ntQ (zab (zab (reQ 1 rfl (hvQ rfl (lnQ rfl rfl rfl (zaa hv)) (zbf 1 rfl (zau ?_))))))
  refine lkQ3 (α := Nat) (β := Int) (γ := List Int) [0, 1, 2, 4, 5, 6, 7, 8, 35, 40, 41] rfl (fun i c ys => [bigE (D1.map brPart), rowE 3 1 (.slice (some ⟨g3, 0, none⟩) ((List.replicate n.ss.length (0 : Int)).length) ((List.replicate n.ss.length (0 : Int)).length)) ys.length (ys.map (Value.int .i64)), rowE 22 1 (.slice (some ⟨g2, 0, none⟩) ((List.replicate n.ss.length br0).length) ((List.replicate n.ss.length br0).length)) D1.length (D1.flatMap brC), boxE b1 #[.int .i64 n.ins, n.sv, n.av, n.ov] 28]) (fun i c ys => [(9, .int .i64 c), (42, .int .i64 (i : Int))]) (fun i c ys => i ≤ cs.length ∧ c = n.ins + ((rpA cs i).length : Int) ∧ ys.length = n.ss.length ∧ ys.take i = (stX cs n.ins (x : Int) i)) (fun i c ys => cs.length - i) 0 n.ins zs ⟨Nat.zero_le _, (by show _ = n.ins + ((0 : Nat) : Int); omega), hzl, rfl⟩ (saQ rfl) (pfQ rfl) ?_
  intro i c ys hi6
  obtain ⟨hi, hc, hyl, hyt⟩ := hi6
  have hrl := rpA_le cs i
  refine srQ ?_
  refine zbk rfl rfl rfl rfl rfl rfl (fun h7 => ?_) (fun h7 => ?_)
  ·
   refine ntQ (tcQ rfl (zch (sbQ (zab (reQ 1 rfl (hvQ rfl (riQ 1 rfl rfl rfl rfl (zaa hv)) (hvQ rfl (liQ rfl rfl rfl (zaa hv)) ?_)))))))
   refine zbf 2 rfl (zab (reQ 2 rfl ?_))
   refine zcs rfl rfl rfl rfl rfl rfl (fun h8 => ?_) (fun h8 => ?_)
   ·
    refine ntQ (zan rfl (srQ ?_))
    have hpw : (x : Int) / 2 ^ c.toNat = (x : Int) / 2 ^ (n.ins.toNat + (rpA cs i).length) := by rw [show c.toNat = n.ins.toNat + (rpA cs i).length by omega]
    have hp0 : 0 ≤ (x : Int) / 2 ^ c.toNat ∧ (x : Int) / 2 ^ c.toNat < 4294967296 := ⟨Int.ediv_nonneg (by omega) (Int.le_of_lt (Int.pow_pos (by omega))), Int.lt_of_le_of_lt (Int.ediv_le_self _ (by omega)) (by omega)⟩
    refine zai 1 rfl (zai 3 rfl (hvQ rfl (rv_conv rfl Try.underlying3 Try.underlying60 rfl (IntWalk.u64_in _ (by omega))) (hvQ rfl (rv_shr rfl rfl rfl (by omega)) (hvQ rfl (zcl rfl (by decide) rfl rfl (r := ((x : Int) / 2 ^ (c : Int).toNat) % 2) (Bit.and_one _ hp0.1 hp0.2)) (hvQ rfl (riQ 1 rfl rfl rfl rfl (zao 1 rfl)) ?_)))))
    refine zeo (i := 1) (n' := (ys.set i (((x : Int) / 2 ^ (c : Int).toNat) % 2)).length) (xs' := ((ys.set i (((x : Int) / 2 ^ (c : Int).toNat) % 2)).map (Value.int .i64))) rfl rfl rfl rfl rfl rfl rfl rfl (by first | omega | (simp only [List.length_set]; omega)) List.length_set.symm (zdl _ _ _) rfl (ntQ (reQ 1 rfl (hvQ rfl (vaQ rfl rfl rfl) (enQ 1 rfl (zcj (zar (hvQ rfl (vaQ rfl rfl rfl) (zai 1 rfl ?_))))))))
    exact zbw (zbh (i + 1) (c + 1) (ys.set i (((x : Int) / 2 ^ (c : Int).toNat) % 2)) ⟨by omega, by first | (rw [zdd (show cs.getD i 0 = (i : Int) by assumption), List.length_append, List.length_singleton]; omega) | (rw [rpA_no (by assumption)]; omega), by rw [List.length_set]; exact hyl, by first | (rw [zds (by omega), hyt, stX_yes (show cs.getD i 0 = (i : Int) by assumption), ← hpw]) | (rw [zds (by omega), hyt, stX_no (by assumption), ← hgz])⟩ (by omega) (saQ rfl) (pfQ rfl))
   refine ntQ (zak rfl (zar ?_))
   have hci := (hq.cl i (by omega)).1
   have hgz : ys.getD (cs.getD i 0).toNat 0 = (stX cs n.ins (x : Int) i).getD (cs.getD i 0).toNat 0 := by rw [← hyt]; exact (getD_take (by omega)).symm
   refine zai 4 rfl (hvQ rfl (riQ 1 rfl rfl rfl rfl (zao 1 rfl)) (hvQ rfl (lzQ rfl rfl rfl (zao 1 rfl)) (hvQ rfl (riQ 1 rfl rfl rfl rfl (zao 1 rfl)) ?_)))
   refine zeo (i := 1) (n' := (ys.set i (ys.getD ((cs.getD i 0).toNat) 0)).length) (xs' := ((ys.set i (ys.getD ((cs.getD i 0).toNat) 0)).map (Value.int .i64))) rfl rfl rfl rfl rfl rfl rfl rfl (by first | omega | (simp only [List.length_set]; omega)) List.length_set.symm (zdl _ _ _) rfl (zbw (zcj (zar (hvQ rfl (vaQ rfl rfl rfl) (enQ 1 rfl ?_)))))
   exact zbh (i + 1) c (ys.set i (ys.getD ((cs.getD i 0).toNat) 0)) ⟨by omega, by first | (rw [zdd (show cs.getD i 0 = (i : Int) by assumption), List.length_append, List.length_singleton]; omega) | (rw [rpA_no (by assumption)]; omega), by rw [List.length_set]; exact hyl, by first | (rw [zds (by omega), hyt, stX_yes (show cs.getD i 0 = (i : Int) by assumption), ← hpw]) | (rw [zds (by omega), hyt, stX_no (by assumption), ← hgz])⟩ (by omega) (saQ rfl) (pfQ rfl)
  refine ntQ (fcQ rfl ?_)
  refine zbb (zda ?_)
  refine zad (zas (srQ ?_))
  have hye : ys = stX cs n.ins (x : Int) n.ss.length := by rw [show i = n.ss.length by omega, ← hyl, List.take_length] at hyt; rw [hyt, hyl]
  have hso := stX_ok hn hq (x : Int)
  have hsl := hso.len
  refine hvQ rfl (zaz (cs := [.int .i64 n.ins, n.sv, n.av, n.ov]) rfl rfl rfl rfl rfl (zax 3 rfl 0 rfl)) (zai 2 rfl ?_)
  refine hl_q rfl rfl rfl (zaj rfl rfl (fun w hm => (by have h9 := zeg n ys _ (x : Int) w (hr.below hm.bel) hn ((zao 1 rfl) w hm) (by rw [hye]; exact hso); rw [hye] at h9; exact h9))) ?_
  intro v9 p10 hR11
  subst hR11
  refine zbf 1 rfl (srQ (hvQ rfl (fdQ 1 rfl rfl rfl) (hvQ rfl (zae rfl rfl rfl (zac 4 rfl rfl)) (hvQ rfl (lnQ rfl rfl rfl (zaa hr.sq)) (zbf 1 rfl (zau ?_))))))
  refine lkQ2 (α := Nat) (β := List Br) [0, 1, 2, 4, 5, 6, 7, 8, 9, 12, 35, 40, 41, 42, 43, 73, 74] rfl (fun I9 D2 => [rowE 3 1 v9 ((valsL n (stX cs n.ins (x : Int) n.ss.length) (x : Int)).length) ((valsL n (stX cs n.ins (x : Int) n.ss.length) (x : Int)).map (Value.int .i64)), bigE (D2.map brPart), rowE 3 1 (.slice (some ⟨g3, 0, none⟩) ((List.replicate n.ss.length (0 : Int)).length) ((List.replicate n.ss.length (0 : Int)).length)) ys.length (ys.map (Value.int .i64)), rowE 22 1 (.slice (some ⟨g2, 0, none⟩) ((List.replicate n.ss.length br0).length) ((List.replicate n.ss.length br0).length)) D2.length (D2.flatMap brC), boxE b1 #[.int .i64 n.ins, n.sv, n.av, n.ov] 28]) (fun I9 D2 => [(75, .int .i64 (I9 : Int))]) (fun I9 D2 => I9 ≤ n.ss.length ∧ BrP n cs D2 x I9) (fun I9 D2 => n.ss.length - I9) 0 D1 ⟨Nat.zero_le _, hbr⟩ (saQ rfl) (pfQ rfl) ?_
  intro I9 D2 hi12
  obtain ⟨hI, hb2⟩ := hi12
  have hb2l := hb2.len
  have hb2r := hb2.row
  have hvl : (valsL n (stX cs n.ins (x : Int) n.ss.length) (x : Int)).length = 1 + n.ins.toNat + (stX cs n.ins (x : Int) n.ss.length).length + n.gs.length := zdi n (stX cs n.ins (x : Int) n.ss.length) (x : Int) n.gs.length (Nat.le_refl _)
  have hv01 : B01 (valsL n (stX cs n.ins (x : Int) n.ss.length) (x : Int)) := val01 hn hsl (x : Int) n.gs.length (Nat.le_refl _)
  refine srQ ?_
  refine zbk rfl rfl rfl rfl rfl rfl (fun h13 => ?_) (fun h13 => ?_)
  ·
   refine ntQ (tcQ rfl (zch (sbQ (zab (reQ 1 rfl (hvQ rfl (riQ 3 rfl rfl rfl rfl (zaa hr.sq)) ?_))))))
   refine hvQ rfl (zct (us := [.int .i64 ((n.ss.getD I9 sq0).kd), .int .i64 ((n.ss.getD I9 sq0).it), (n.ss.getD I9 sq0).iv]) rfl rfl rfl rfl (zaa hr.sq) (by omega) rfl (zdx sqC 3 (fun _ => rfl) n.ss sq0 (show I9 < _ by omega) rfl)) (zea rfl (zcf (z := .agg #[.int .i64 0, .int .i64 0, .slice none 0 0]) rfl rfl) ?_)
   intro b14
   refine zai 1 rfl (zcp (cs' := #[.int .i64 ((n.ss.getD I9 sq0).kd), .int .i64 ((n.ss.getD I9 sq0).it), (n.ss.getD I9 sq0).iv]) (i := 0) (off := 0) (us := [.int .i64 ((n.ss.getD I9 sq0).kd), .int .i64 ((n.ss.getD I9 sq0).it), (n.ss.getD I9 sq0).iv]) rfl rfl rfl rfl rfl rfl rfl (zap rfl (zap rfl (zap (hr.at (k := I9) (by omega)).one zce))) rfl rfl rfl ?_)
   refine ntQ ?_
   have hkI := (hn.sq _ (zbc (d := sq0) (show I9 < n.ss.length by omega))).kind
   have hxI := hn.xs _ (zbc (d := sq0) (show I9 < n.ss.length by omega)) _ (zbc (d := (0 : Int)) (show 0 < (n.ss.getD I9 sq0).xs.length by omega))
   unfold LtOk at hxI
   have hbI := hv01 (((n.ss.getD I9 sq0).xs.getD 0 0) / 2).toNat (by omega)
   have hb01 : bitL (valsL n (stX cs n.ins (x : Int) n.ss.length) (x : Int)) ((n.ss.getD I9 sq0).xs.getD 0 0) = 0 ∨ bitL (valsL n (stX cs n.ins (x : Int) n.ss.length) (x : Int)) ((n.ss.getD I9 sq0).xs.getD 0 0) = 1 := bX_01 hn hq (x : Int) (show I9 < n.ss.length by omega)
   have hrI : (D2.getD I9 br0).xs.length = x := by rw [hb2r I9 (by omega), if_neg (by omega), colL_len]
   refine hc_pick 6 [5, 4, 3, 1, 0, 2] rfl rfl (by decide) ?_
   refine zey [rowE 5 1 ((D2.getD I9 br0).v) (((D2.getD I9 br0).xs).length) (((D2.getD I9 br0).xs).flatMap u8C), bigE ((D2.map brPart).eraseIdx I9), boxE b14 #[.int .i64 ((n.ss.getD I9 sq0).kd), .int .i64 ((n.ss.getD I9 sq0).it), (n.ss.getD I9 sq0).iv] 43, rowE 3 1 v9 ((valsL n (stX cs n.ins (x : Int) n.ss.length) (x : Int)).length) ((valsL n (stX cs n.ins (x : Int) n.ss.length) (x : Int)).map (Value.int .i64)), rowE 3 1 (.slice (some ⟨g3, 0, none⟩) ((List.replicate n.ss.length (0 : Int)).length) ((List.replicate n.ss.length (0 : Int)).length)) ys.length (ys.map (Value.int .i64)), rowE 22 1 (.slice (some ⟨g2, 0, none⟩) ((List.replicate n.ss.length br0).length) ((List.replicate n.ss.length br0).length)) D2.length (D2.flatMap brC), boxE b1 #[.int .i64 n.ins, n.sv, n.av, n.ov] 28] (conv_brFocus (j := I9) (by omega)) ?_
   refine hc_draw4 (l := [bigE ((D2.map brPart).eraseIdx I9), boxE b14 #[.int .i64 ((n.ss.getD I9 sq0).kd), .int .i64 ((n.ss.getD I9 sq0).it), (n.ss.getD I9 sq0).iv] 43, rowE 3 1 v9 ((valsL n (stX cs n.ins (x : Int) n.ss.length) (x : Int)).length) ((valsL n (stX cs n.ins (x : Int) n.ss.length) (x : Int)).map (Value.int .i64)), rowE 3 1 (.slice (some ⟨g3, 0, none⟩) ((List.replicate n.ss.length (0 : Int)).length) ((List.replicate n.ss.length (0 : Int)).length)) ys.length (ys.map (Value.int .i64)), rowE 22 1 (.slice (some ⟨g2, 0, none⟩) ((List.replicate n.ss.length br0).length) ((List.replicate n.ss.length br0).length)) D2.length (D2.flatMap brC), boxE b1 #[.int .i64 n.ins, n.sv, n.av, n.ov] 28]) rfl 15 [0, 1, 2, 3, 4, 5, 6, 7, 8, 9, 10, 11, 12, 13, 14] (List.take 15 _) (List.drop 15 _) [[], [], [], [], [2, 3], [4], [], [], [7], [8], [9], [6, 10], [11], [12], [5, 13]] [some 80, some 81, some 82, some 83, some 84, some 85, some 86, some 87, some 88, some 89, some 90, some 91, some 92, some 93, some 94] (fun i_ vs_ v_ p_ => match i_ with | 0 => v_ = .slice (some ⟨g2, 0, none⟩) ((List.replicate n.ss.length br0).length) ((List.replicate n.ss.length br0).length) ∧ p_ = [] | 1 => v_ = .int .i64 (I9 : Int) ∧ p_ = [] | 2 => v_ = .slice (some ⟨g2, 0, none⟩) ((List.replicate n.ss.length br0).length) ((List.replicate n.ss.length br0).length) ∧ p_ = [] | 3 => v_ = .int .i64 (I9 : Int) ∧ p_ = [] | 4 => v_ = elP (.slice (some ⟨g2, 0, none⟩) ((List.replicate n.ss.length br0).length) ((List.replicate n.ss.length br0).length)) (((I9 : Int)).toNat * 1) ∧ p_ = [] | 5 => v_ = (D2.getD I9 br0).v ∧ p_ = [] | 6 => v_ = v9 ∧ p_ = [] | 7 => v_ = .pointer (some ⟨b14, 0 + 2, none⟩) ∧ p_ = [] | 8 => v_ = (n.ss.getD I9 sq0).iv ∧ p_ = [] | 9 => v_ = elP ((n.ss.getD I9 sq0).iv) ((0 : Int).toNat * 1) ∧ p_ = [] | 10 => v_ = .int .i64 (((n.ss.getD I9 sq0).xs).getD 0 0) ∧ p_ = [] | 11 => v_ = .int .i64 (bitL (valsL n (stX cs n.ins (x : Int) n.ss.length) (x : Int)) (((n.ss.getD I9 sq0).xs).getD 0 0)) ∧ p_ = [] | 12 => v_ = .int .u8 (bitL (valsL n (stX cs n.ins (x : Int) n.ss.length) (x : Int)) (((n.ss.getD I9 sq0).xs).getD 0 0)) ∧ p_ = [] | 13 => IsRow 5 1 1 ([.int .u8 (bitL (valsL n (stX cs n.ins (x : Int) n.ss.length) (x : Int)) (((n.ss.getD I9 sq0).xs).getD 0 0))]) v_ p_ | 14 => (∃ pm_, p_ = [pm_] ∧ (fun u_ p_ => p_ = rowE 5 1 u_ ((((D2.getD I9 br0).xs) ++ [(bitL (valsL n (stX cs n.ins (x : Int) n.ss.length) (x : Int)) ((n.ss.getD I9 sq0).xs.getD 0 0))]).length) ((((D2.getD I9 br0).xs) ++ [(bitL (valsL n (stX cs n.ins (x : Int) n.ss.length) (x : Int)) ((n.ss.getD I9 sq0).xs.getD 0 0))]).flatMap u8C)) v_ pm_) | _ => True) [[], [], [], [], [2, 3], [4], [], [], [7], [8], [9], [6, 10], [11], [12], [5, 13]] [none, none, none, none, none, none, none, none, none, none, none, none, none, none, some 17] [[rowE 5 1 ((D2.getD I9 br0).v) (((D2.getD I9 br0).xs).length) (((D2.getD I9 br0).xs).flatMap u8C)]] [0, 1, 2, 3, 4, 5, 6, 7, 8, 9, 10, 11, 12, 13, 14] 17 (List.take_append_drop 15 _).symm (by kernel_rfl) (by kernel_rfl) (by kernel_rfl) rfl rfl ?_ ?_
   ·
    refine ⟨?_, ?_, ?_, ?_, ?_, ?_, ?_, ?_, ?_, ?_, ?_, ?_, ?_, ?_, ?_, trivial⟩
    ·
     intro vf pf hmu hR
     refine dq3Q [] [] rfl (zbm (zaq [6] rfl) ?_)
     exact zbq (zaf rfl)
    ·
     intro vf pf hmu hR
     refine dq3Q [] [] rfl (zbm (zaq [13] rfl) ?_)
     exact zbq (zaf rfl)
    ·
     intro vf pf hmu hR
     refine dq3Q [] [] rfl (zbm (zaq [6] rfl) ?_)
     exact zbq (zaf rfl)
    ·
     intro vf pf hmu hR
     refine dq3Q [] [] rfl (zbm (zaq [13] rfl) ?_)
     exact zbq (zaf rfl)
    ·
     intro vf pf hmu hR
     have e2 := hR 2 (by decide)
     have e3 := hR 3 (by decide)
     refine dq3Q [2, 3] [2, 3] rfl (zbu (sk 82 (congrArg some e2.1) (sk 83 (congrArg some e3.1) (zag _))) (List.sublist_append_right _ _) ?_)
     exact zbq (riQ 1 rfl rfl rfl rfl (zao 4 rfl))
    ·
     intro vf pf hmu hR
     have e4 := hR 4 (by decide)
     refine dq3Q [4] [4] rfl (zbu (sk 84 (congrArg some e4.1) (zag _)) (List.sublist_append_right _ _) ?_)
     exact zbq (zal (u := (D2.getD I9 br0).v) rfl rfl rfl (zao 4 rfl) (zco brC (fun r => r.v) (fun _ => rfl) D2 br0 (show I9 < _ by omega)))
    ·
     intro vf pf hmu hR
     refine dq3Q [] [] rfl (zbm (zaq [12] rfl) ?_)
     exact zbq (zaf rfl)
    ·
     intro vf pf hmu hR
     refine dq3Q [] [] rfl (zbm (zaq [14] rfl) ?_)
     exact zbq (fdQ 2 rfl rfl rfl)
    ·
     intro vf pf hmu hR
     have e7 := hR 7 (by decide)
     refine dq3Q [7] [7] rfl (zbu (sk 87 (congrArg some e7.1) (zag _)) (List.sublist_append_right _ _) ?_)
     exact zbq (zae rfl rfl rfl (zac 1 rfl rfl))
    ·
     intro vf pf hmu hR
     have e8 := hR 8 (by decide)
     refine dq3Q [8] [8] rfl (zbu (sk 88 (congrArg some e8.1) (zag _)) (List.sublist_append_right _ _) ?_)
     exact zbq (riQ 1 rfl rfl rfl rfl (fun w hm => (hr.at (k := I9) (by omega)).below hm.bel))
    ·
     intro vf pf hmu hR
     have e9 := hR 9 (by decide)
     refine dq3Q [9] [9] rfl (zbu (sk 89 (congrArg some e9.1) (zag _)) (List.sublist_append_right _ _) ?_)
     exact zbq (zal (u := .int .i64 (((n.ss.getD I9 sq0).xs).getD 0 0)) rfl rfl rfl (fun w hm => (hr.at (k := I9) (by omega)).below hm.bel) (zdm (show _ < ((n.ss.getD I9 sq0).xs).length by omega)))
    ·
     intro vf pf hmu hR
     have e6 := hR 6 (by decide)
     have e10 := hR 10 (by decide)
     refine dq3Q [6, 10] [6, 10] rfl (zbu (sk 86 (congrArg some e6.1) (sk 90 (congrArg some e10.1) (zag _))) (List.sublist_append_right _ _) ?_)
     exact (zaj (by kernel_rfl) rfl (fun w hm => zat (zde (valsL n (stX cs n.ins (x : Int) n.ss.length) (x : Int)) (((n.ss.getD I9 sq0).xs).getD 0 0) _ w ((zao 2 rfl) w hm) (by omega) (by first | assumption | omega) (by omega))))
    ·
     intro vf pf hmu hR
     have e11 := hR 11 (by decide)
     refine dq3Q [11] [11] rfl (zbm (sk 91 (congrArg some e11.1) (zag _)) ?_)
     exact zbq (rv_conv rfl Try.underlying3 Try.underlying5 rfl (IntWalk.u8_in _ (by omega)))
    ·
     intro vf pf hmu hR
     have e12 := hR 12 (by decide)
     refine dq3Q [12] [12] rfl (zbu (sk 92 (congrArg some e12.1) (zag _)) (List.sublist_append_right _ _) ?_)
     exact zay (z := .int .u8 0) (s := 1) (cs := [.int .u8 (bitL (valsL n (stX cs n.ins (x : Int) n.ss.length) (x : Int)) (((n.ss.getD I9 sq0).xs).getD 0 0))]) rfl Try.underlying22 rfl (by decide) rfl (by kernel_rfl) rfl
    intro vf pf hmu hR
    have e5 := hR 5 (by decide)
    have e13 : IsRow 5 1 1 ([.int .u8 (bitL (valsL n (stX cs n.ins (x : Int) n.ss.length) (x : Int)) (((n.ss.getD I9 sq0).xs).getD 0 0))]) (vf 13) (pf 13) := hR 13 (by decide)
    obtain ⟨g15, vE13, pE13⟩ := e13
    refine Or.inl ⟨rfl, ?_⟩
    show RunM _ _ _ (pf 17) (([5, 13] : List Nat).flatMap pf ++ _) (envOf3 _ vf [5, 13] ++ _) _ _
    have hmu0 : pf 17 = [rowE 5 1 ((D2.getD I9 br0).v) (((D2.getD I9 br0).xs).length) (((D2.getD I9 br0).xs).flatMap u8C)] := hmu 0 (show 0 < 1 by omega)
    rw [hmu0]
    exact zcu (sk 85 (congrArg some e5.1) (sk 93 (congrArg some vE13) (zag _))) (by simp only [pE13, vE13, e5.2, fS] <;> rfl) (rm_append (d := 0) (z := .int .u8 0) (bytes := 1) (n' := (((D2.getD I9 br0).xs) ++ [(bitL (valsL n (stX cs n.ins (x : Int) n.ss.length) (x : Int)) ((n.ss.getD I9 sq0).xs.getD 0 0))]).length) (xs' := ((((D2.getD I9 br0).xs) ++ [(bitL (valsL n (stX cs n.ins (x : Int) n.ss.length) (x : Int)) ((n.ss.getD I9 sq0).xs.getD 0 0))]).flatMap u8C)) rfl Try.underlying22 rfl rfl rfl rfl (zao 0 rfl) (zap rfl zce) (by first | omega | (simp only [List.length_append, List.length_cons, List.length_nil]; omega)) (zca ((D2.getD I9 br0).xs) [(bitL (valsL n (stX cs n.ins (x : Int) n.ss.length) (x : Int)) ((n.ss.getD I9 sq0).xs.getD 0 0))]) (flat_app1 u8C ((D2.getD I9 br0).xs) (bitL (valsL n (stX cs n.ins (x : Int) n.ss.length) (x : Int)) ((n.ss.getD I9 sq0).xs.getD 0 0)) _ rfl))
   intro vf pf hmu hR
   have e0 := hR 0 (by decide)
   have e1 := hR 1 (by decide)
   have e13 : IsRow 5 1 1 ([.int .u8 (bitL (valsL n (stX cs n.ins (x : Int) n.ss.length) (x : Int)) (((n.ss.getD I9 sq0).xs).getD 0 0))]) (vf 13) (pf 13) := hR 13 (by decide)
   obtain ⟨g15, vE13, pE13⟩ := e13
   have e14 : (∃ pm_, (pf 14) = [pm_] ∧ (fun u_ p_ => p_ = rowE 5 1 u_ ((((D2.getD I9 br0).xs) ++ [(bitL (valsL n (stX cs n.ins (x : Int) n.ss.length) (x : Int)) ((n.ss.getD I9 sq0).xs.getD 0 0))]).length) ((((D2.getD I9 br0).xs) ++ [(bitL (valsL n (stX cs n.ins (x : Int) n.ss.length) (x : Int)) ((n.ss.getD I9 sq0).xs.getD 0 0))]).flatMap u8C)) (vf 14) pm_) := hR 14 (by decide)
   obtain ⟨p17, pE14, hR18⟩ := e14
   obtain ⟨v16, vE14⟩ : ∃ x, vf 14 = x := ⟨_, rfl⟩
   rw [vE14] at hR18
   subst hR18
   have q0 := hR 0 (by decide)
   have q1 := hR 1 (by decide)
   have q2 := hR 2 (by decide)
   have q3 := hR 3 (by decide)
   have q4 := hR 4 (by decide)
   have q5 := hR 5 (by decide)
   have q6 := hR 6 (by decide)
   have q7 := hR 7 (by decide)
   have q8 := hR 8 (by decide)
   have q9 := hR 9 (by decide)
   have q10 := hR 10 (by decide)
   have q11 := hR 11 (by decide)
   have q12 := hR 12 (by decide)
   refine zcy (zcc [76, 75, 74, 73, 43, 42, 41, 40, 35, 14, 13, 12, 9, 8, 7, 6, 5, 4, 2, 1, 0] _ (sk 80 (congrArg some e0.1) (sk 81 (congrArg some e1.1) (sk 94 (congrArg some vE14) (zag _)))) rfl) (by simp only [pE13, vE13, pE14, vE14, q0.2, q1.2, q2.2, q3.2, q4.2, q5.2, q6.2, q7.2, q8.2, q9.2, q10.2, q11.2, q12.2, fS] <;> rfl) ?_
   simp only [List.drop_succ_cons, List.drop_zero]
   refine hvQ rfl (riQ 1 rfl rfl rfl rfl (zao 6 rfl)) (hl_one (i := 1) rfl (fun ho19 => ?_))
   refine zeo (i := 6) (n' := (D2.set I9 (Br.mk v16 (((D2.getD I9 br0).xs) ++ [(bitL (valsL n (stX cs n.ins (x : Int) n.ss.length) (x : Int)) ((n.ss.getD I9 sq0).xs.getD 0 0))]))).length) rfl rfl rfl rfl rfl rfl ho19 rfl (by first | omega | (simp only [List.length_set]; omega)) List.length_set.symm (flat_set1 brC (fun r => r.v) (fun _ => rfl) _ (Br.mk v16 (((D2.getD I9 br0).xs) ++ [(bitL (valsL n (stX cs n.ins (x : Int) n.ss.length) (x : Int)) ((n.ss.getD I9 sq0).xs.getD 0 0))])) rfl) rfl (zex 8 [7, 6, 5, 4, 3, 0, 2, 1] rfl rfl (by decide) ?_)
   refine zek [bigE ((D2.set I9 (Br.mk v16 (((D2.getD I9 br0).xs) ++ [(bitL (valsL n (stX cs n.ins (x : Int) n.ss.length) (x : Int)) ((n.ss.getD I9 sq0).xs.getD 0 0))]))).map brPart), rowE 5 1 (.slice (some ⟨g15, 0, none⟩) 1 1) 1 ([.int .u8 (bitL (valsL n (stX cs n.ins (x : Int) n.ss.length) (x : Int)) (((n.ss.getD I9 sq0).xs).getD 0 0))]), boxE b14 #[.int .i64 ((n.ss.getD I9 sq0).kd), .int .i64 ((n.ss.getD I9 sq0).it), (n.ss.getD I9 sq0).iv] 43, rowE 3 1 v9 ((valsL n (stX cs n.ins (x : Int) n.ss.length) (x : Int)).length) ((valsL n (stX cs n.ins (x : Int) n.ss.length) (x : Int)).map (Value.int .i64)), rowE 3 1 (.slice (some ⟨g3, 0, none⟩) ((List.replicate n.ss.length (0 : Int)).length) ((List.replicate n.ss.length (0 : Int)).length)) ys.length (ys.map (Value.int .i64)), rowE 22 1 (.slice (some ⟨g2, 0, none⟩) ((List.replicate n.ss.length br0).length) ((List.replicate n.ss.length br0).length)) ((D2.set I9 (Br.mk v16 (((D2.getD I9 br0).xs) ++ [(bitL (valsL n (stX cs n.ins (x : Int) n.ss.length) (x : Int)) ((n.ss.getD I9 sq0).xs.getD 0 0))]))).length) ((D2.set I9 (Br.mk v16 (((D2.getD I9 br0).xs) ++ [(bitL (valsL n (stX cs n.ins (x : Int) n.ss.length) (x : Int)) ((n.ss.getD I9 sq0).xs.getD 0 0))]))).flatMap brC), boxE b1 #[.int .i64 n.ins, n.sv, n.av, n.ov] 28] (conv_brUnfocus (es := D2) (j := I9) (e' := (Br.mk v16 (((D2.getD I9 br0).xs) ++ [(bitL (valsL n (stX cs n.ins (x : Int) n.ss.length) (x : Int)) ((n.ss.getD I9 sq0).xs.getD 0 0))]))) (by first | omega | (simp only [List.length_set]; omega))) ?_
   refine zbw (zcj (zar (hvQ rfl (vaQ rfl rfl rfl) (enQ 1 rfl ?_))))
   refine zcb 7 [6, 5, 4, 0, 3] rfl rfl (by decide) ?_
   exact zbg (I9 + 1) (D2.set I9 (Br.mk v16 (((D2.getD I9 br0).xs) ++ [(bitL (valsL n (stX cs n.ins (x : Int) n.ss.length) (x : Int)) ((n.ss.getD I9 sq0).xs.getD 0 0))]))) ⟨by omega, hb2.step (by omega) rfl⟩ (by omega) (saQ rfl) (pfQ rfl)
  refine ntQ (fcQ rfl ?_)
  refine zbb (zda ?_)
  refine zad (zcj (reQ 1 rfl (hvQ rfl (vaQ rfl rfl rfl) (enQ 1 rfl ?_))))
  exact zbh (x + 1) D2 ys ⟨by omega, BrP.next (by rw [show n.ss.length = I9 by omega]; exact hb2), hyl⟩ (by omega) (saQ rfl) (slQ [1, 0, 0, 0] rfl)
 refine ntQ (zak rfl ?_)
 refine zbb (zda ?_)
 refine zad (zas (srQ ?_))
 refine zep 9 1 ?_
 refine zcd (l' := [rowE 9 1 (.slice none 0 0) (([] : List Br).length) (([] : List Br).flatMap brC), bigE (D1.map brPart), rowE 3 1 (.slice (some ⟨g3, 0, none⟩) ((List.replicate n.ss.length (0 : Int)).length) ((List.replicate n.ss.length (0 : Int)).length)) zs.length (zs.map (Value.int .i64)), rowE 22 1 (.slice (some ⟨g2, 0, none⟩) ((List.replicate n.ss.length br0).length) ((List.replicate n.ss.length br0).length)) D1.length (D1.flatMap brC), boxE b1 #[.int .i64 n.ins, n.sv, n.av, n.ov] 28]) rfl ?_
 refine zbf 1 rfl (zab (zab (reQ 1 rfl (hvQ rfl (lnQ rfl rfl rfl (zao 3 rfl)) (zbf 1 rfl (zau ?_))))))
 have hbE : BrP n cs D1 (cases2 n cs) 0 := by rw [show cases2 n cs = x by omega]; exact hbr
 have hbEl := hbE.len
 refine lkQ3 (α := Nat) (β := List Br) (γ := Value) [0, 1, 2, 4, 5, 6, 7, 8, 35, 97, 98] rfl (fun j B bv => [rowE 9 1 bv B.length (B.flatMap brC), bigE (D1.map brPart), rowE 3 1 (.slice (some ⟨g3, 0, none⟩) ((List.replicate n.ss.length (0 : Int)).length) ((List.replicate n.ss.length (0 : Int)).length)) zs.length (zs.map (Value.int .i64)), rowE 22 1 (.slice (some ⟨g2, 0, none⟩) ((List.replicate n.ss.length br0).length) ((List.replicate n.ss.length br0).length)) D1.length (D1.flatMap brC), boxE b1 #[.int .i64 n.ins, n.sv, n.av, n.ov] 28]) (fun j B bv => [(15, bv), (99, .int .i64 (j : Int))]) (fun j B bv => j ≤ n.ss.length ∧ SrP n cs B j) (fun j B bv => n.ss.length - j) 0 [] _ ⟨Nat.zero_le _, SrP.nil _ _⟩ (saQ rfl) (pfQ rfl) ?_
 intro j B bv hi21
 obtain ⟨hj, hsr⟩ := hi21
 have hsl2 := hsr.len
 refine srQ ?_
 refine zbk rfl rfl rfl rfl rfl rfl (fun h22 => ?_) (fun h22 => ?_)
 ·
  refine ntQ (tcQ rfl (zch (sbQ (srQ (hvQ rfl (riQ 1 rfl rfl rfl rfl (zao 3 rfl)) ?_)))))
  refine hvQ rfl (zal (u := (D1.getD j br0).v) rfl rfl rfl (zao 3 rfl) (zco brC (fun r => r.v) (fun _ => rfl) D1 br0 (show j < _ by omega))) (zbf 1 rfl (reQ 2 rfl (hvQ rfl (rv_bytesStr rfl rfl Try.underlying22 Try.underlying5 Try.underlying9 (br_rd (i := 1) (k := j) rfl (by omega))) ?_)))
  refine hrwQ rfl (zay (z := .string .empty) (s := 1) (cs := [.string (bstr ((D1.getD j br0).xs))]) rfl Try.underlying46 rfl (by decide) rfl (by kernel_rfl) rfl) ?_
  intro g23
  refine zck (i := 1) (z := .string .empty) (bytes := 16) rfl rfl rfl rfl Try.underlying46 (by kernel_rfl) rfl rfl rfl rfl (zao 0 rfl) (zap rfl zce) (by first | omega | (simp only [List.length_append, List.length_cons, List.length_nil]; omega)) (zca B [(Br.mk (.string (bstr (D1.getD j br0).xs)) (D1.getD j br0).xs)]) (flat_app1 brC B (Br.mk (.string (bstr (D1.getD j br0).xs)) (D1.getD j br0).xs) _ rfl) (fun _ => rfl) ?_
  intro v24
  refine enQ 1 rfl (zcj (zar (hvQ rfl (vaQ rfl rfl rfl) (enQ 1 rfl ?_))))
  exact zbh (j + 1) (B ++ [(Br.mk (.string (bstr (D1.getD j br0).xs)) (D1.getD j br0).xs)]) v24 ⟨by omega, hsr.app ⟨rfl, by show (D1.getD j br0).xs = _; rw [hbE.row j (by omega), if_neg (by omega)]⟩⟩ (by omega) (saQ rfl) (slQ [1, 0, 0, 0, 0] rfl)
 refine ntQ (fcQ rfl ?_)
 refine zbb (zda ?_)
 refine zad (zas (zbe 2 rfl ?_))
 exact zav (zcw (post := [rowE 9 1 bv B.length (B.flatMap brC)]) rfl rfl (slQ [0] rfl) ⟨B, rfl, by have h9 := hsr; rw [show j = n.ss.length by omega] at h9; exact h9⟩)
theorem implClassesHold_ans (n : Nt) (cs : List Int) (v : Value) (w : World) (hr : RdsNt w n) (hn : NtOk n) (hv : RdsW w v 1 cs.length (cs.map (Value.int .i64))) :
   Calls Try.prog 7 #[.agg #[.int .i64 n.ins, n.sv, n.av, n.ov], v] w (Ans w (.bool (pB (HoldP n cs)))) := by
 have hi0 := hn.i0
 have hi1 := hn.i1
 have hs1 := hn.s1
 have ha1 := hn.a1
 have ho1 := hn.o1
 have hcnt : n.cnt = 1 + n.ins + n.ss.length + n.gs.length := rfl
 have hfst : n.fst = 1 + n.ins + n.ss.length := rfl
 have hv9 := sml hv
 have hrp0 := rpA_le cs cs.length
 have hrp1 : rpN cs = (rpA cs cs.length).length := rfl
 refine zba (N := 63) (args := [.agg #[.int .i64 n.ins, n.sv, n.av, n.ov], v]) Try.func7 rfl rfl (srQ ?_)
 refine zea rfl (zcg rfl rfl) ?_
 intro b1
 refine zbf 1 rfl (zab (zab ?_))
 rcases Bool.eq_false_or_eq_true (pB (ClP n cs)) with hb2 | hb2
 ·
  have hb2p := of_pB hb2
  have hcp8 : ClP n cs := by assumption
  have hrp9 := rpN_le hcp8.q.len
  rcases Bool.eq_false_or_eq_true (decide (10 < n.ins + (rpN cs : Int))) with hb3 | hb3
  ·
   have hb3p : 10 < n.ins + (rpN cs : Int) := of_decide_eq_true hb3
   have hcp8 : ClP n cs := by assumption
   have hrp9 := rpN_le hcp8.q.len
   refine zbd 12 [[], [], [0, 1], [2], [3], [4], [4, 5], [4], [4, 7], [4, 6, 8], [4, 9], [4, 10]] [10, 11, 12, 13, 14, 15, 16, 17, 18, 19, 20, 21] [.agg #[.int .i64 n.ins, n.sv, n.av, n.ov], v, .bool true, .bool false, .bool false, .pointer (some ⟨b1, 0 + 0, none⟩), .int .i64 n.ins, v, .int .i64 (rpN cs : Int), .int .i64 (n.ins + (rpN cs : Int)), .bool true, .bool true] (by kernel_rfl) rfl ?_ ?_
   ·
    exact ⟨iaQ rfl (zaz (cs := [.int .i64 n.ins, n.sv, n.av, n.ov]) rfl rfl rfl rfl rfl (zax 0 rfl 0 rfl)) rfl, iaQ rfl (zaf rfl) rfl, .inl ⟨rfl, rq_cb (zaj rfl rfl (fun w hm => zat (zdk n cs v w (hr.below hm.bel) hn (hv.below hm.bel)))) hb2⟩, iaQ rfl (zaf rfl) rfl, iaQ rfl (zaf rfl) rfl, iaQ rfl (fdQ 0 rfl rfl rfl) rfl, iaQ rfl (zae rfl rfl rfl (zac 0 rfl rfl)) rfl, iaQ rfl (zaf rfl) rfl, .inl ⟨rfl, zaj rfl rfl (fun w hm => zat (zcx cs v w (hv.below hm.bel)))⟩, iaQ rfl (vaQ rfl rfl rfl) rfl, .inl ⟨rfl, zbx (zbl rfl rfl rfl rfl) hb3⟩, iaQ rfl (zaf rfl) rfl, trivial⟩
   simp only [List.drop_succ_cons, List.drop_zero]
   refine ntQ (zan rfl (zbe 1 rfl ?_))
   refine zav (zam ?_)
   exact zbi rfl rfl (congrArg _ (zei (fun hp => by first | (exact absurd hp.cl (by assumption)) | (have h9 := hp.few; omega) | (have h9 := hp.ini i (by omega); omega) | (exact absurd ((hsr.col (by omega) (by omega)).2 (hp.col i2 (by omega))) (by assumption)))).symm)
  have hb3p : ¬ (10 < n.ins + (rpN cs : Int)) := of_decide_eq_false hb3
  have hcp8 : ClP n cs := by assumption
  have hrp9 := rpN_le hcp8.q.len
  refine zbd 12 [[], [], [0, 1], [2], [3], [4], [4, 5], [4], [4, 7], [4, 6, 8], [4, 9], [4, 10]] [10, 11, 12, 13, 14, 15, 16, 17, 18, 19, 20, 21] [.agg #[.int .i64 n.ins, n.sv, n.av, n.ov], v, .bool true, .bool false, .bool false, .pointer (some ⟨b1, 0 + 0, none⟩), .int .i64 n.ins, v, .int .i64 (rpN cs : Int), .int .i64 (n.ins + (rpN cs : Int)), .bool false, .bool false] (by kernel_rfl) rfl ?_ ?_
  ·
   exact ⟨iaQ rfl (zaz (cs := [.int .i64 n.ins, n.sv, n.av, n.ov]) rfl rfl rfl rfl rfl (zax 0 rfl 0 rfl)) rfl, iaQ rfl (zaf rfl) rfl, .inl ⟨rfl, rq_cb (zaj rfl rfl (fun w hm => zat (zdk n cs v w (hr.below hm.bel) hn (hv.below hm.bel)))) hb2⟩, iaQ rfl (zaf rfl) rfl, iaQ rfl (zaf rfl) rfl, iaQ rfl (fdQ 0 rfl rfl rfl) rfl, iaQ rfl (zae rfl rfl rfl (zac 0 rfl rfl)) rfl, iaQ rfl (zaf rfl) rfl, .inl ⟨rfl, zaj rfl rfl (fun w hm => zat (zcx cs v w (hv.below hm.bel)))⟩, iaQ rfl (vaQ rfl rfl rfl) rfl, .inl ⟨rfl, zbx (zbl rfl rfl rfl rfl) hb3⟩, iaQ rfl (zaf rfl) rfl, trivial⟩
  simp only [List.drop_succ_cons, List.drop_zero]
  refine ntQ (zak rfl (zch (ssrQ ?_)))
  have hcp : ClP n cs := by assumption
  have hcl := hcp.q.len
  have hq := hcp.q
  refine zai 1 rfl (hvQ rfl (lnQ rfl rfl rfl (zaa hv)) (zbf 1 rfl (zau ?_)))
  refine lkQ1 (α := Nat) [0, 1, 2, 4, 21, 22, 23] rfl (fun i => [boxE b1 #[.int .i64 n.ins, n.sv, n.av, n.ov] 28]) (fun i => [(24, .int .i64 (i : Int))]) (fun i => i ≤ cs.length ∧ ∀ q, q < i → (n.ss.getD q sq0).it = (n.ss.getD (cs.getD q 0).toNat sq0).it) (fun i => cs.length - i) 0 ⟨Nat.zero_le _, fun q hq => absurd hq (by omega)⟩ (saQ rfl) (pfQ rfl) ?_
  intro i hi4
  obtain ⟨hi, hit⟩ := hi4
  refine srQ ?_
  refine zbk rfl rfl rfl rfl rfl rfl (fun h5 => ?_) (fun h5 => ?_)
  ·
   refine ntQ (tcQ rfl (zch (sbQ (zab (reQ 1 rfl (hvQ rfl (riQ 1 rfl rfl rfl rfl (zaa hv)) (hvQ rfl (liQ rfl rfl rfl (zaa hv)) ?_)))))))
   refine zbf 2 rfl (zab ?_)
   have hci := (hcp.q.cl i (by omega)).1
   rcases Bool.eq_false_or_eq_true (((n.ss.getD i sq0).it) != ((n.ss.getD ((cs.getD i 0).toNat) sq0).it)) with hb6 | hb6
   ·
    have hb6p : (n.ss.getD i sq0).it ≠ (n.ss.getD ((cs.getD i 0).toNat) sq0).it := bne_iff_ne.1 hb6
    refine zbd 13 [[], [0], [], [1, 2], [3], [4], [], [6], [], [7, 8], [9], [10], [5, 11]] [29, 30, 31, 32, 33, 34, 35, 36, 37, 38, 39, 40, 41] [.pointer (some ⟨b1, 0 + 1, none⟩), n.sv, .int .i64 (i : Int), elP n.sv (((i : Int)).toNat * 3), elP n.sv (((i : Int)).toNat * 3 + 1), .int .i64 ((n.ss.getD i sq0).it), .pointer (some ⟨b1, 0 + 1, none⟩), n.sv, .int .i64 (cs.getD i 0), elP n.sv ((cs.getD i 0).toNat * 3), elP n.sv ((cs.getD i 0).toNat * 3 + 1), .int .i64 ((n.ss.getD ((cs.getD i 0).toNat) sq0).it), .bool true] (by kernel_rfl) rfl ?_ ?_
    ·
     exact ⟨iaQ rfl (fdQ 1 rfl rfl rfl) rfl, iaQ rfl (zae rfl rfl rfl (zac 0 rfl rfl)) rfl, iaQ rfl (zaf rfl) rfl, iaQ rfl (riQ 3 rfl rfl rfl rfl (zaa hr.sq)) rfl, iaQ rfl (zaw (k0 := 1) rfl rfl rfl (zaa hr.sq) (by omega)) rfl, iaQ rfl (zal (u := .int .i64 ((n.ss.getD i sq0).it)) rfl rfl rfl (zaa hr.sq) ((zbj sqC 3 (fun _ => rfl) n.ss sq0 (show i < _ by omega) (by decide)).trans rfl)) rfl, iaQ rfl (fdQ 1 rfl rfl rfl) rfl, iaQ rfl (zae rfl rfl rfl (zac 0 rfl rfl)) rfl, iaQ rfl (zaf rfl) rfl, iaQ rfl (riQ 3 rfl rfl rfl rfl (zaa hr.sq)) rfl, iaQ rfl (zaw (k0 := 1) rfl rfl rfl (zaa hr.sq) (by omega)) rfl, iaQ rfl (zal (u := .int .i64 ((n.ss.getD ((cs.getD i 0).toNat) sq0).it)) rfl rfl rfl (zaa hr.sq) ((zbj sqC 3 (fun _ => rfl) n.ss sq0 (show (cs.getD i 0).toNat < _ by omega) (by decide)).trans rfl)) rfl, .inl ⟨rfl, zbx (zbl rfl rfl rfl rfl) hb6⟩, trivial⟩
    simp only [List.drop_succ_cons, List.drop_zero]
    refine ntQ (zan rfl (zbe 1 rfl ?_))
    refine zav (zah ?_)
    refine rt2Q ?_
    refine zah (zam ?_)
    exact zbi rfl rfl (congrArg _ (zei (fun hp => by first | (exact absurd hp.cl (by assumption)) | (have h9 := hp.few; omega) | (have h9 := hp.ini i (by omega); omega) | (exact absurd ((hsr.col (by omega) (by omega)).2 (hp.col i2 (by omega))) (by assumption)))).symm)
   have hb6p : (n.ss.getD i sq0).it = (n.ss.getD ((cs.getD i 0).toNat) sq0).it := (bne_eq_false_iff_eq.1 hb6)
   refine zbd 13 [[], [0], [], [1, 2], [3], [4], [], [6], [], [7, 8], [9], [10], [5, 11]] [29, 30, 31, 32, 33, 34, 35, 36, 37, 38, 39, 40, 41] [.pointer (some ⟨b1, 0 + 1, none⟩), n.sv, .int .i64 (i : Int), elP n.sv (((i : Int)).toNat * 3), elP n.sv (((i : Int)).toNat * 3 + 1), .int .i64 ((n.ss.getD i sq0).it), .pointer (some ⟨b1, 0 + 1, none⟩), n.sv, .int .i64 (cs.getD i 0), elP n.sv ((cs.getD i 0).toNat * 3), elP n.sv ((cs.getD i 0).toNat * 3 + 1), .int .i64 ((n.ss.getD ((cs.getD i 0).toNat) sq0).it), .bool false] (by kernel_rfl) rfl ?_ ?_
   ·
    exact ⟨iaQ rfl (fdQ 1 rfl rfl rfl) rfl, iaQ rfl (zae rfl rfl rfl (zac 0 rfl rfl)) rfl, iaQ rfl (zaf rfl) rfl, iaQ rfl (riQ 3 rfl rfl rfl rfl (zaa hr.sq)) rfl, iaQ rfl (zaw (k0 := 1) rfl rfl rfl (zaa hr.sq) (by omega)) rfl, iaQ rfl (zal (u := .int .i64 ((n.ss.getD i sq0).it)) rfl rfl rfl (zaa hr.sq) ((zbj sqC 3 (fun _ => rfl) n.ss sq0 (show i < _ by omega) (by decide)).trans rfl)) rfl, iaQ rfl (fdQ 1 rfl rfl rfl) rfl, iaQ rfl (zae rfl rfl rfl (zac 0 rfl rfl)) rfl, iaQ rfl (zaf rfl) rfl, iaQ rfl (riQ 3 rfl rfl rfl rfl (zaa hr.sq)) rfl, iaQ rfl (zaw (k0 := 1) rfl rfl rfl (zaa hr.sq) (by omega)) rfl, iaQ rfl (zal (u := .int .i64 ((n.ss.getD ((cs.getD i 0).toNat) sq0).it)) rfl rfl rfl (zaa hr.sq) ((zbj sqC 3 (fun _ => rfl) n.ss sq0 (show (cs.getD i 0).toNat < _ by omega) (by decide)).trans rfl)) rfl, .inl ⟨rfl, zbx (zbl rfl rfl rfl rfl) hb6⟩, trivial⟩
   simp only [List.drop_succ_cons, List.drop_zero]
   refine ntQ (fsQ rfl (zcj (zar (hvQ rfl (vaQ rfl rfl rfl) (enQ 1 rfl ?_)))))
   exact zbr (i + 1) ⟨by omega, fun q hq => by by_cases e : q = i; (subst e; omega); exact hit q (by omega)⟩ (by omega) (saQ rfl) (pfQ rfl)
  refine ntQ (fcQ rfl ?_)
  refine zbb (zda ?_)
  refine zad (zas (srQ (hvQ rfl (zaz (cs := [.int .i64 n.ins, n.sv, n.av, n.ov]) rfl rfl rfl rfl rfl (zax 0 rfl 0 rfl)) (zai 1 rfl ?_))))
  refine hl_q rfl rfl rfl (zaj rfl rfl (fun w hm => inBits_ret n cs v w (hr.below hm.bel) hn ((zaa hv) w hm) hq (by omega))) ?_
  intro v7 p8 hR9
  obtain ⟨B, rfl, hsr⟩ := hR9
  have hsrl := hsr.len
  refine zbf 1 rfl (zab (zab (reQ 1 rfl (hvQ rfl (lnQ rfl rfl rfl (zaa hv)) (zbf 1 rfl (zau ?_))))))
  refine lkQ1 (α := Nat) [0, 1, 2, 4, 7, 21, 22, 23, 24, 25, 46, 47] rfl (fun i2 => [rowE 9 1 v7 B.length (B.flatMap brC), boxE b1 #[.int .i64 n.ins, n.sv, n.av, n.ov] 28]) (fun i2 => [(48, .int .i64 (i2 : Int))]) (fun i2 => i2 ≤ cs.length ∧ ∀ q, q < i2 → ColE n cs q (cs.getD q 0).toNat) (fun i2 => cs.length - i2) 0 ⟨Nat.zero_le _, fun q hq => absurd hq (by omega)⟩ (saQ rfl) (pfQ rfl) ?_
  intro i2 hi10
  obtain ⟨hi2, hco⟩ := hi10
  refine srQ ?_
  refine zbk rfl rfl rfl rfl rfl rfl (fun h11 => ?_) (fun h11 => ?_)
  ·
   refine ntQ (tcQ rfl (zch (sbQ (zab (reQ 1 rfl (hvQ rfl (riQ 1 rfl rfl rfl rfl (zaa hv)) (hvQ rfl (liQ rfl rfl rfl (zaa hv)) ?_)))))))
   refine zbf 2 rfl (zab ?_)
   have hci := (hcp.q.cl i2 (by omega)).1
   rcases Bool.eq_false_or_eq_true (!decide ((B.getD i2 br0).xs = (B.getD ((cs.getD i2 0).toNat) br0).xs)) with hb12 | hb12
   ·
    have hb12p := of_decide_eq_false (by simpa using hb12)
    refine zbd 9 [[], [], [0, 1], [2], [], [], [4, 5], [6], [3, 7]] [53, 54, 55, 56, 57, 58, 59, 60, 61] [v7, .int .i64 (i2 : Int), elP v7 (((i2 : Int)).toNat * 1), (B.getD i2 br0).v, v7, .int .i64 (cs.getD i2 0), elP v7 ((cs.getD i2 0).toNat * 1), (B.getD ((cs.getD i2 0).toNat) br0).v, .bool true] (by kernel_rfl) rfl ?_ ?_
    ·
     exact ⟨iaQ rfl (zaf rfl) rfl, iaQ rfl (zaf rfl) rfl, iaQ rfl (riQ 1 rfl rfl rfl rfl (zao 0 rfl)) rfl, iaQ rfl (zal (u := (B.getD i2 br0).v) rfl rfl rfl (zao 0 rfl) (zco brC (fun r => r.v) (fun _ => rfl) B br0 (show i2 < _ by omega))) rfl, iaQ rfl (zaf rfl) rfl, iaQ rfl (zaf rfl) rfl, iaQ rfl (riQ 1 rfl rfl rfl rfl (zao 0 rfl)) rfl, iaQ rfl (zal (u := (B.getD ((cs.getD i2 0).toNat) br0).v) rfl rfl rfl (zao 0 rfl) (zco brC (fun r => r.v) (fun _ => rfl) B br0 (show (cs.getD i2 0).toNat < _ by omega))) rfl, .inl ⟨rfl, zbx (rv_sneq rfl rfl rfl (hsr.ok i2 (by omega)).1 (hsr.ok ((cs.getD i2 0).toNat) (by omega)).1 (hsr.b01 hn hq (by omega)) (hsr.b01 hn hq (by omega))) hb12⟩, trivial⟩
    simp only [List.drop_succ_cons, List.drop_zero]
    refine ntQ (zan rfl (zbe 1 rfl ?_))
    refine zav (zah ?_)
    refine rt2Q ?_
    refine zah (zam ?_)
    exact zbi rfl rfl (congrArg _ (zei (fun hp => by first | (exact absurd hp.cl (by assumption)) | (have h9 := hp.few; omega) | (have h9 := hp.ini i (by omega); omega) | (exact absurd ((hsr.col (by omega) (by omega)).2 (hp.col i2 (by omega))) (by assumption)))).symm)
   have hb12p := of_decide_eq_true (by simpa using hb12)
   refine zbd 9 [[], [], [0, 1], [2], [], [], [4, 5], [6], [3, 7]] [53, 54, 55, 56, 57, 58, 59, 60, 61] [v7, .int .i64 (i2 : Int), elP v7 (((i2 : Int)).toNat * 1), (B.getD i2 br0).v, v7, .int .i64 (cs.getD i2 0), elP v7 ((cs.getD i2 0).toNat * 1), (B.getD ((cs.getD i2 0).toNat) br0).v, .bool false] (by kernel_rfl) rfl ?_ ?_
   ·
    exact ⟨iaQ rfl (zaf rfl) rfl, iaQ rfl (zaf rfl) rfl, iaQ rfl (riQ 1 rfl rfl rfl rfl (zao 0 rfl)) rfl, iaQ rfl (zal (u := (B.getD i2 br0).v) rfl rfl rfl (zao 0 rfl) (zco brC (fun r => r.v) (fun _ => rfl) B br0 (show i2 < _ by omega))) rfl, iaQ rfl (zaf rfl) rfl, iaQ rfl (zaf rfl) rfl, iaQ rfl (riQ 1 rfl rfl rfl rfl (zao 0 rfl)) rfl, iaQ rfl (zal (u := (B.getD ((cs.getD i2 0).toNat) br0).v) rfl rfl rfl (zao 0 rfl) (zco brC (fun r => r.v) (fun _ => rfl) B br0 (show (cs.getD i2 0).toNat < _ by omega))) rfl, .inl ⟨rfl, zbx (rv_sneq rfl rfl rfl (hsr.ok i2 (by omega)).1 (hsr.ok ((cs.getD i2 0).toNat) (by omega)).1 (hsr.b01 hn hq (by omega)) (hsr.b01 hn hq (by omega))) hb12⟩, trivial⟩
   simp only [List.drop_succ_cons, List.drop_zero]
   refine ntQ (fsQ rfl (zcj (zar (hvQ rfl (vaQ rfl rfl rfl) (enQ 1 rfl ?_)))))
   exact zbr (i2 + 1) ⟨by omega, fun q hq9 => by by_cases e : q = i2; (subst e; exact (hsr.col (by omega) (by omega)).1 (by assumption)); exact hco q (by omega)⟩ (by omega) (saQ rfl) (pfQ rfl)
  refine ntQ (fcQ rfl ?_)
  refine zbb (zda ?_)
  refine zad (zas (zbe 1 rfl ?_))
  exact zav (zbi rfl rfl (congrArg _ (pB_yes ⟨hcp, by omega, fun i9 hi9 => hit i9 (by omega), fun i9 hi9 => hco i9 (by omega)⟩).symm))
 have hb2p := of_pBn hb2
 refine zbd 12 [[], [], [0, 1], [2], [3], [4], [4], [4], [4], [4], [4], [4, 10]] [10, 11, 12, 13, 14, 15, 16, 17, 18, 19, 20, 21] [.agg #[.int .i64 n.ins, n.sv, n.av, n.ov], v, .bool false, .bool true, .bool true, undef, undef, undef, undef, undef, undef, .bool true] (by kernel_rfl) rfl ?_ ?_
 ·
  exact ⟨iaQ rfl (zaz (cs := [.int .i64 n.ins, n.sv, n.av, n.ov]) rfl rfl rfl rfl rfl (zax 0 rfl 0 rfl)) rfl, iaQ rfl (zaf rfl) rfl, .inl ⟨rfl, rq_cb (zaj rfl rfl (fun w hm => zat (zdk n cs v w (hr.below hm.bel) hn (hv.below hm.bel)))) hb2⟩, iaQ rfl (zaf rfl) rfl, iaQ rfl (zaf rfl) rfl, .inr ⟨rfl, rfl⟩, .inr ⟨rfl, rfl⟩, .inr ⟨rfl, rfl⟩, .inr ⟨rfl, rfl⟩, .inr ⟨rfl, rfl⟩, .inr ⟨rfl, rfl⟩, iaQ rfl (zaf rfl) rfl, trivial⟩
 simp only [List.drop_succ_cons, List.drop_zero]
 refine ntQ (zan rfl (zbe 1 rfl ?_))
 refine zav (zam ?_)
 exact zbi rfl rfl (congrArg _ (zei (fun hp => by first | (exact absurd hp.cl (by assumption)) | (have h9 := hp.few; omega) | (have h9 := hp.ini i (by omega); omega) | (exact absurd ((hsr.col (by omega) (by omega)).2 (hp.col i2 (by omega))) (by assumption)))).symm)
theorem classesBy_ret (n : Nt) (cs : List Int) (B : List Br) (v u : Value) (w : World) (hn : NtOk n) (hv : RdsW w v 1 cs.length (cs.map (Value.int .i64))) (hu : RdsW w u 1 B.length (B.flatMap brC)) (hsr : SrP n cs B n.ss.length) (hq : ClQ n.ss.length cs) :
   Calls Try.prog 51 #[v, u] w (Ret w (fun v' post => post = [rowE 3 1 v' ((rfL n cs)).length (((rfL n cs)).map (Value.int .i64))])) := by
 have hs1 := hn.s1
 have hcl := hq.len
 have hsrl := hsr.len
 refine zba (N := 47) (args := [v, u]) Try.func51 rfl rfl (zbe 1 rfl (srQ ?_))
 refine zep 3 1 (zbf 1 rfl (zab (zab (reQ 1 rfl (hvQ rfl (lnQ rfl rfl rfl (zaa hv)) (zbf 1 rfl (zau ?_)))))))
 refine lkQ3 (α := Nat) (β := List Int) (γ := Value) [0, 1, 4, 10] rfl (fun i zs zv => [rowE 3 1 zv zs.length (zs.map (Value.int .i64))]) (fun i zs zv => [(5, zv), (11, .int .i64 (i : Int))]) (fun i zs zv => i ≤ cs.length ∧ zs = mnL (RfM n cs) i) (fun i zs zv => cs.length - i) 0 [] _ ⟨Nat.zero_le _, rfl⟩ (saQ rfl) (pfQ rfl) ?_
 intro i zs zv hi2
 obtain ⟨hi, hz⟩ := hi2
 have hzl : zs.length = i := by rw [hz]; exact mnL_len _ _
 refine srQ ?_
 refine zbk rfl rfl rfl rfl rfl rfl (fun h3 => ?_) (fun h3 => ?_)
 ·
  refine ntQ (tcQ rfl (zch (sbQ (srQ (enQ 2 rfl ?_)))))
  refine zas (zbe 2 rfl (zab (zbe 1 rfl ?_)))
  refine zau ?_
  refine lkQ1 (α := Nat) [0, 1, 4, 5, 6, 7, 10, 11, 12] rfl (fun j => [rowE 3 1 zv zs.length (zs.map (Value.int .i64))]) (fun j => [(8, .int .i64 (j : Int))]) (fun j => j ≤ i ∧ ∀ q, q < j → ¬ RfM n cs i q) (fun j => i - j) 0 ⟨Nat.zero_le _, fun q hq => absurd hq (by omega)⟩ (saQ rfl) (pfQ rfl) ?_
  intro j hi4
  obtain ⟨hj, hno⟩ := hi4
  refine zab (zab (reQ 2 rfl ?_))
  refine zbk rfl rfl rfl rfl rfl rfl (fun h5 => ?_) (fun h5 => ?_)
  ·
   refine ntQ (zan rfl (zch (sbQ (zab ?_))))
   rcases Bool.eq_false_or_eq_true ((cs.getD j 0) == (cs.getD i 0)) with hb6 | hb6
   ·
    have hb6p : cs.getD j 0 = cs.getD i 0 := beq_iff_eq.1 hb6
    rcases Bool.eq_false_or_eq_true (decide ((B.getD j br0).xs = (B.getD i br0).xs)) with hb7 | hb7
    ·
     have hb7p := of_decide_eq_true hb7
     refine zbd 20 [[], [], [0, 1], [2], [], [], [4, 5], [6], [3, 7], [8], [9], [9], [9, 10, 11], [9, 12], [9], [9], [9, 14, 15], [9, 16], [9, 13, 17], [9, 18]] [20, 21, 22, 23, 24, 25, 26, 27, 28, 29, 30, 31, 32, 33, 34, 35, 36, 37, 38, 39] [v, .int .i64 (j : Int), elP v (((j : Int)).toNat * 1), .int .i64 (cs.getD j 0), v, .int .i64 (i : Int), elP v (((i : Int)).toNat * 1), .int .i64 (cs.getD i 0), .bool true, .bool true, u, .int .i64 (j : Int), elP u (((j : Int)).toNat * 1), (B.getD j br0).v, u, .int .i64 (i : Int), elP u (((i : Int)).toNat * 1), (B.getD i br0).v, .bool true, .bool true] (by kernel_rfl) rfl ?_ ?_
     ·
      exact ⟨iaQ rfl (zaf rfl) rfl, iaQ rfl (zaf rfl) rfl, iaQ rfl (riQ 1 rfl rfl rfl rfl (zaa hv)) rfl, iaQ rfl (liQ rfl rfl rfl (zaa hv)) rfl, iaQ rfl (zaf rfl) rfl, iaQ rfl (zaf rfl) rfl, iaQ rfl (riQ 1 rfl rfl rfl rfl (zaa hv)) rfl, iaQ rfl (liQ rfl rfl rfl (zaa hv)) rfl, .inl ⟨rfl, zbx (zbl rfl rfl rfl rfl) hb6⟩, iaQ rfl (zaf rfl) rfl, iaQ rfl (zaf rfl) rfl, iaQ rfl (zaf rfl) rfl, iaQ rfl (riQ 1 rfl rfl rfl rfl (zaa hu)) rfl, iaQ rfl (zal (u := (B.getD j br0).v) rfl rfl rfl (zaa hu) (zco brC (fun r => r.v) (fun _ => rfl) B br0 (show j < _ by omega))) rfl, iaQ rfl (zaf rfl) rfl, iaQ rfl (zaf rfl) rfl, iaQ rfl (riQ 1 rfl rfl rfl rfl (zaa hu)) rfl, iaQ rfl (zal (u := (B.getD i br0).v) rfl rfl rfl (zaa hu) (zco brC (fun r => r.v) (fun _ => rfl) B br0 (show i < _ by omega))) rfl, .inl ⟨rfl, zbx (rv_seql rfl rfl rfl (hsr.ok j (by omega)).1 (hsr.ok i (by omega)).1 (hsr.b01 hn hq (by omega)) (hsr.b01 hn hq (by omega))) hb7⟩, iaQ rfl (zaf rfl) rfl, trivial⟩
     simp only [List.drop_succ_cons, List.drop_zero]
     refine ntQ (zan rfl (srQ ?_))
     have hhit : RfM n cs i j := ⟨by omega, (hsr.col (by omega) (by omega)).1 (Eq.symm (by assumption))⟩
     refine zbf 2 rfl ?_
     refine zbb (hq_block_past rfl ?_)
     refine zda ?_
     refine zad (zas (reQ 2 rfl ?_))
     refine hrwQ rfl (zay (z := .int .i64 0) (s := 1) (cs := ([(j : Int)].map (Value.int .i64))) rfl Try.underlying26 rfl (by decide) rfl (by kernel_rfl) rfl) ?_
     intro g8
     refine zck (i := 1) (z := .int .i64 0) (bytes := 8) rfl rfl rfl rfl Try.underlying26 (by kernel_rfl) rfl rfl rfl rfl (zao 0 rfl) (zbv _) (by first | omega | (simp; done) | (simp; omega)) (zca zs ([(j : Int)])) (zby zs ([(j : Int)])) (fun _ => rfl) ?_
     intro v9
     refine enQ 1 rfl (zcj (zar (hvQ rfl (vaQ rfl rfl rfl) (enQ 1 rfl ?_))))
     have hkm : ((j : Int) : Int) = (mnI (RfM n cs) i : Int) := by rw [mnI_hit (by omega) (by assumption) hno]
     exact zbh (i + 1) (zs ++ ([(j : Int)])) v9 ⟨by omega, by rw [mnL_succ, ← hz, ← hkm]⟩ (by omega) (saQ rfl) (slQ [1] rfl)
    have hb7p := of_decide_eq_false hb7
    refine zbd 20 [[], [], [0, 1], [2], [], [], [4, 5], [6], [3, 7], [8], [9], [9], [9, 10, 11], [9, 12], [9], [9], [9, 14, 15], [9, 16], [9, 13, 17], [9, 18]] [20, 21, 22, 23, 24, 25, 26, 27, 28, 29, 30, 31, 32, 33, 34, 35, 36, 37, 38, 39] [v, .int .i64 (j : Int), elP v (((j : Int)).toNat * 1), .int .i64 (cs.getD j 0), v, .int .i64 (i : Int), elP v (((i : Int)).toNat * 1), .int .i64 (cs.getD i 0), .bool true, .bool true, u, .int .i64 (j : Int), elP u (((j : Int)).toNat * 1), (B.getD j br0).v, u, .int .i64 (i : Int), elP u (((i : Int)).toNat * 1), (B.getD i br0).v, .bool false, .bool false] (by kernel_rfl) rfl ?_ ?_
    ·
     exact ⟨iaQ rfl (zaf rfl) rfl, iaQ rfl (zaf rfl) rfl, iaQ rfl (riQ 1 rfl rfl rfl rfl (zaa hv)) rfl, iaQ rfl (liQ rfl rfl rfl (zaa hv)) rfl, iaQ rfl (zaf rfl) rfl, iaQ rfl (zaf rfl) rfl, iaQ rfl (riQ 1 rfl rfl rfl rfl (zaa hv)) rfl, iaQ rfl (liQ rfl rfl rfl (zaa hv)) rfl, .inl ⟨rfl, zbx (zbl rfl rfl rfl rfl) hb6⟩, iaQ rfl (zaf rfl) rfl, iaQ rfl (zaf rfl) rfl, iaQ rfl (zaf rfl) rfl, iaQ rfl (riQ 1 rfl rfl rfl rfl (zaa hu)) rfl, iaQ rfl (zal (u := (B.getD j br0).v) rfl rfl rfl (zaa hu) (zco brC (fun r => r.v) (fun _ => rfl) B br0 (show j < _ by omega))) rfl, iaQ rfl (zaf rfl) rfl, iaQ rfl (zaf rfl) rfl, iaQ rfl (riQ 1 rfl rfl rfl rfl (zaa hu)) rfl, iaQ rfl (zal (u := (B.getD i br0).v) rfl rfl rfl (zaa hu) (zco brC (fun r => r.v) (fun _ => rfl) B br0 (show i < _ by omega))) rfl, .inl ⟨rfl, zbx (rv_seql rfl rfl rfl (hsr.ok j (by omega)).1 (hsr.ok i (by omega)).1 (hsr.b01 hn hq (by omega)) (hsr.b01 hn hq (by omega))) hb7⟩, iaQ rfl (zaf rfl) rfl, trivial⟩
    simp only [List.drop_succ_cons, List.drop_zero]
    refine ntQ (fsQ rfl (zcj (reQ 1 rfl (hvQ rfl (vaQ rfl rfl rfl) (enQ 1 rfl ?_)))))
    exact zbr (j + 1) ⟨by omega, fun q hq9 => by by_cases e : q = j; (subst e; exact fun h9 => by first | (have h8 := h9.1; omega) | exact absurd ((hsr.col (by omega) (by omega)).2 h9.2).symm (by assumption)); exact hno q (by omega)⟩ (by omega) (saQ rfl) (pfQ rfl)
   have hb6p : cs.getD j 0 ≠ cs.getD i 0 := beq_eq_false_iff_ne.1 hb6
   refine zbd 20 [[], [], [0, 1], [2], [], [], [4, 5], [6], [3, 7], [8], [9], [9], [9], [9], [9], [9], [9], [9], [9], [9, 18]] [20, 21, 22, 23, 24, 25, 26, 27, 28, 29, 30, 31, 32, 33, 34, 35, 36, 37, 38, 39] [v, .int .i64 (j : Int), elP v (((j : Int)).toNat * 1), .int .i64 (cs.getD j 0), v, .int .i64 (i : Int), elP v (((i : Int)).toNat * 1), .int .i64 (cs.getD i 0), .bool false, .bool false, undef, undef, undef, undef, undef, undef, undef, undef, undef, .bool false] (by kernel_rfl) rfl ?_ ?_
   ·
    exact ⟨iaQ rfl (zaf rfl) rfl, iaQ rfl (zaf rfl) rfl, iaQ rfl (riQ 1 rfl rfl rfl rfl (zaa hv)) rfl, iaQ rfl (liQ rfl rfl rfl (zaa hv)) rfl, iaQ rfl (zaf rfl) rfl, iaQ rfl (zaf rfl) rfl, iaQ rfl (riQ 1 rfl rfl rfl rfl (zaa hv)) rfl, iaQ rfl (liQ rfl rfl rfl (zaa hv)) rfl, .inl ⟨rfl, zbx (zbl rfl rfl rfl rfl) hb6⟩, iaQ rfl (zaf rfl) rfl, .inr ⟨rfl, rfl⟩, .inr ⟨rfl, rfl⟩, .inr ⟨rfl, rfl⟩, .inr ⟨rfl, rfl⟩, .inr ⟨rfl, rfl⟩, .inr ⟨rfl, rfl⟩, .inr ⟨rfl, rfl⟩, .inr ⟨rfl, rfl⟩, .inr ⟨rfl, rfl⟩, iaQ rfl (zaf rfl) rfl, trivial⟩
   simp only [List.drop_succ_cons, List.drop_zero]
   refine ntQ (fsQ rfl (zcj (reQ 1 rfl (hvQ rfl (vaQ rfl rfl rfl) (enQ 1 rfl ?_)))))
   exact zbr (j + 1) ⟨by omega, fun q hq9 => by by_cases e : q = j; (subst e; exact fun h9 => by first | (have h8 := h9.1; omega) | exact absurd ((hsr.col (by omega) (by omega)).2 h9.2).symm (by assumption)); exact hno q (by omega)⟩ (by omega) (saQ rfl) (pfQ rfl)
  refine ntQ (zak rfl ?_)
  refine zbb (zda ?_)
  refine zad (zas (reQ 2 rfl ?_))
  refine hrwQ rfl (zay (z := .int .i64 0) (s := 1) (cs := ([(i : Int)].map (Value.int .i64))) rfl Try.underlying26 rfl (by decide) rfl (by kernel_rfl) rfl) ?_
  intro g10
  refine zck (i := 1) (z := .int .i64 0) (bytes := 8) rfl rfl rfl rfl Try.underlying26 (by kernel_rfl) rfl rfl rfl rfl (zao 0 rfl) (zbv _) (by first | omega | (simp; done) | (simp; omega)) (zca zs ([(i : Int)])) (zby zs ([(i : Int)])) (fun _ => rfl) ?_
  intro v11
  refine enQ 1 rfl (zcj (zar (hvQ rfl (vaQ rfl rfl rfl) (enQ 1 rfl ?_))))
  have hkm : (i : Int) = (mnI (RfM n cs) i : Int) := by rw [zew (fun q hq9 => hno q (by omega))]
  exact zbh (i + 1) (zs ++ ([(i : Int)])) v11 ⟨by omega, by rw [mnL_succ, ← hz, ← hkm]⟩ (by omega) (saQ rfl) (slQ [1] rfl)
 refine ntQ (fcQ rfl ?_)
 refine zbb (zda ?_)
 refine zad (zas (zbe 2 rfl ?_))
 exact zav (zcw (post := [rowE 3 1 zv zs.length (zs.map (Value.int .i64))]) rfl rfl (pfQ rfl) (by rw [hz, show i = n.ss.length by omega]; rfl))
theorem ownClasses_ret (n : Nt) (w : World) (hr : RdsNt w n) (hn : NtOk n) :
   Calls Try.prog 50 #[.agg #[.int .i64 n.ins, n.sv, n.av, n.ov]] w (Ret w (fun u_ p_ => ∃ zs : List Int, p_ = [rowE 3 1 u_ zs.length (zs.map (Value.int .i64))] ∧ zs.length = n.ss.length)) := by
 have hi0 := hn.i0
 have hi1 := hn.i1
 have hs1 := hn.s1
 have ha1 := hn.a1
 have ho1 := hn.o1
 have hcnt : n.cnt = 1 + n.ins + n.ss.length + n.gs.length := rfl
 have hfst : n.fst = 1 + n.ins + n.ss.length := rfl
 refine zba (N := 17) (args := [.agg #[.int .i64 n.ins, n.sv, n.av, n.ov]]) Try.func50 rfl rfl (srQ ?_)
 refine zea rfl (zcg rfl rfl) ?_
 intro b1
 refine zbf 1 rfl (srQ ?_)
 refine zep 3 1 (zbf 1 rfl (ssrQ (hvQ rfl (fdQ 1 rfl rfl rfl) (hvQ rfl (zae rfl rfl rfl (zac 1 rfl rfl)) (hvQ rfl (lnQ rfl rfl rfl (zaa hr.sq)) (zbf 1 rfl ?_))))))
 refine zau ?_
 refine lkQ3 (α := Nat) (β := List Int) (γ := Value) [0, 1, 2, 7] rfl (fun i zs zv => [rowE 3 1 zv zs.length (zs.map (Value.int .i64)), boxE b1 #[.int .i64 n.ins, n.sv, n.av, n.ov] 28]) (fun i zs zv => [(3, zv), (8, .int .i64 (i : Int))]) (fun i zs zv => i ≤ n.ss.length ∧ zs.length = i) (fun i zs zv => n.ss.length - i) 0 [] _ ⟨Nat.zero_le _, rfl⟩ (saQ rfl) (pfQ rfl) ?_
 intro i zs zv hi3
 obtain ⟨hi, hzl⟩ := hi3
 refine srQ ?_
 refine zbk rfl rfl rfl rfl rfl rfl (fun h4 => ?_) (fun h4 => ?_)
 ·
  refine ntQ (tcQ rfl (zch (sbQ (srQ (enQ 2 rfl ?_)))))
  refine zas (reQ 2 rfl ?_)
  refine hrwQ rfl (zay (z := .int .i64 0) (s := 1) (cs := ([(i : Int)].map (Value.int .i64))) rfl Try.underlying26 rfl (by decide) rfl (by kernel_rfl) rfl) ?_
  intro g5
  refine zck (i := 1) (z := .int .i64 0) (bytes := 8) rfl rfl rfl rfl Try.underlying26 (by kernel_rfl) rfl rfl rfl rfl (zao 0 rfl) (zbv _) (by first | omega | (simp; done) | (simp; omega)) (zca zs ([(i : Int)])) (zby zs ([(i : Int)])) (fun _ => rfl) ?_
  intro v6
  refine enQ 1 rfl (zcj (zar (hvQ rfl (vaQ rfl rfl rfl) (enQ 1 rfl ?_))))
  exact zbh (i + 1) (zs ++ ([(i : Int)])) v6 ⟨by omega, by rw [List.length_append, List.length_singleton]; omega⟩ (by omega) (saQ rfl) (slQ [1, 0] rfl)
 refine ntQ (fcQ rfl ?_)
 refine zbb (zda ?_)
 refine zad (zas (zbe 2 rfl ?_))
 exact zav (zcw (post := [rowE 3 1 zv zs.length (zs.map (Value.int .i64))]) rfl rfl (slQ [0] rfl) ⟨zs, rfl, by omega⟩)
theorem sameIntsC_ans (xs ys : List Int) (u v : Value) (w : World) (hu : RdsW w u 1 xs.length (xs.map (Value.int .i64))) (hv : RdsW w v 1 ys.length (ys.map (Value.int .i64))) :
   Calls Try.prog 52 #[u, v] w (Ans w (.bool (decide (xs = ys)))) := by
 have hu9 := sml hu
 have hv9 := sml hv
 refine zba (N := 26) (args := [u, v]) Try.func52 rfl rfl (zbe 1 rfl (zab (zab (reQ 1 rfl (hvQ rfl (lnQ rfl rfl rfl (zaa hu)) (zai 1 rfl (hvQ rfl (lnQ rfl rfl rfl (zaa hv)) ?_)))))))
 refine zeq rfl rfl rfl rfl rfl rfl (fun h1 => ?_) (fun h1 => ?_)
 ·
  refine ntQ (zan rfl (zbe 1 rfl ?_))
  refine zav (zam ?_)
  exact zbi rfl rfl (congrArg _ (decide_eq_false (fun he => by subst he; first | omega | contradiction | simp_all)).symm)
 refine ntQ (zak rfl (zch (zab (zab (reQ 1 rfl (hvQ rfl (lnQ rfl rfl rfl (zaa hu)) (enQ 1 rfl ?_)))))))
 refine zas (zau ?_)
 refine lkQ1 (α := Nat) [0, 1, 4, 10, 12] rfl (fun j => []) (fun j => [(13, .int .i64 (j : Int))]) (fun j => j ≤ xs.length ∧ ∀ i, i < j → xs.getD i 0 = ys.getD i 0) (fun j => xs.length - j) 0 ⟨by omega, fun i hi => absurd hi (by omega)⟩ (saQ rfl) (.slnil) ?_
 intro j hi2
 obtain ⟨hk1, hk2⟩ := hi2
 refine srQ ?_
 refine zbk rfl rfl rfl rfl rfl rfl (fun h3 => ?_) (fun h3 => ?_)
 ·
  refine ntQ (tcQ rfl (zch (sbQ (srQ (enQ 2 rfl ?_)))))
  refine zas (zab ?_)
  rcases Bool.eq_false_or_eq_true ((xs.getD j 0) != (ys.getD j 0)) with hb4 | hb4
  ·
   have hb4p : xs.getD j 0 ≠ ys.getD j 0 := bne_iff_ne.1 hb4
   refine zbd 9 [[], [], [0, 1], [2], [], [], [4, 5], [6], [3, 7]] [16, 17, 18, 19, 20, 21, 22, 23, 24] [u, .int .i64 (j : Int), elP u (((j : Int)).toNat * 1), .int .i64 (xs.getD j 0), v, .int .i64 (j : Int), elP v (((j : Int)).toNat * 1), .int .i64 (ys.getD j 0), .bool true] (by kernel_rfl) rfl ?_ ?_
   ·
    exact ⟨iaQ rfl (zaf rfl) rfl, iaQ rfl (zaf rfl) rfl, iaQ rfl (riQ 1 rfl rfl rfl rfl (zaa hu)) rfl, iaQ rfl (liQ rfl rfl rfl (zaa hu)) rfl, iaQ rfl (zaf rfl) rfl, iaQ rfl (zaf rfl) rfl, iaQ rfl (riQ 1 rfl rfl rfl rfl (zaa hv)) rfl, iaQ rfl (liQ rfl rfl rfl (zaa hv)) rfl, .inl ⟨rfl, zbx (zbl rfl rfl rfl rfl) hb4⟩, trivial⟩
   simp only [List.drop_succ_cons, List.drop_zero]
   refine ntQ (zan rfl (zbe 1 rfl ?_))
   refine zav (zah ?_)
   refine rt2Q ?_
   refine zah (zam ?_)
   exact zbi rfl rfl (congrArg _ (decide_eq_false (fun he => by subst he; first | omega | contradiction | simp_all)).symm)
  have hb4p : xs.getD j 0 = ys.getD j 0 := (bne_eq_false_iff_eq.1 hb4)
  refine zbd 9 [[], [], [0, 1], [2], [], [], [4, 5], [6], [3, 7]] [16, 17, 18, 19, 20, 21, 22, 23, 24] [u, .int .i64 (j : Int), elP u (((j : Int)).toNat * 1), .int .i64 (xs.getD j 0), v, .int .i64 (j : Int), elP v (((j : Int)).toNat * 1), .int .i64 (ys.getD j 0), .bool false] (by kernel_rfl) rfl ?_ ?_
  ·
   exact ⟨iaQ rfl (zaf rfl) rfl, iaQ rfl (zaf rfl) rfl, iaQ rfl (riQ 1 rfl rfl rfl rfl (zaa hu)) rfl, iaQ rfl (liQ rfl rfl rfl (zaa hu)) rfl, iaQ rfl (zaf rfl) rfl, iaQ rfl (zaf rfl) rfl, iaQ rfl (riQ 1 rfl rfl rfl rfl (zaa hv)) rfl, iaQ rfl (liQ rfl rfl rfl (zaa hv)) rfl, .inl ⟨rfl, zbx (zbl rfl rfl rfl rfl) hb4⟩, trivial⟩
  simp only [List.drop_succ_cons, List.drop_zero]
  refine ntQ (fsQ rfl (zcj (zar (hvQ rfl (vaQ rfl rfl rfl) (enQ 1 rfl ?_)))))
  exact zbr (j + 1) ⟨by omega, fun i hi => by by_cases hij : i = j; (subst hij; simpa using (by assumption)); exact hk2 i (by omega)⟩ (by omega) (saQ rfl) (.slnil)
 refine ntQ (fcQ rfl ?_)
 refine zbb (zda ?_)
 refine zad (zas (zbe 1 rfl ?_))
 exact zav (zbi rfl rfl (congrArg _ (decide_eq_true (extC (by omega) (fun i hi => hk2 i (by omega)))).symm))
theorem registerClasses_ret (n : Nt) (w : World) (hr : RdsNt w n) (hn : NtOk n) :
   Calls Try.prog 29 #[.agg #[.int .i64 n.ins, n.sv, n.av, n.ov]] w (Ret w (fun u_ p_ => ∃ zs : List Int, p_ = [rowE 3 1 u_ zs.length (zs.map (Value.int .i64))] ∧ zs.length = n.ss.length)) := by
 have hi0 := hn.i0
 have hi1 := hn.i1
 have hs1 := hn.s1
 have ha1 := hn.a1
 have ho1 := hn.o1
 have hcnt : n.cnt = 1 + n.ins + n.ss.length + n.gs.length := rfl
 have hfst : n.fst = 1 + n.ins + n.ss.length := rfl
 refine zba (N := 75) (args := [.agg #[.int .i64 n.ins, n.sv, n.av, n.ov]]) Try.func29 rfl rfl (srQ ?_)
 refine zea rfl (zcg rfl rfl) ?_
 intro b1
 refine zbf 1 rfl (srQ ?_)
 refine zep 3 1 (zbf 1 rfl (ssrQ (hvQ rfl (fdQ 1 rfl rfl rfl) (hvQ rfl (zae rfl rfl rfl (zac 1 rfl rfl)) (hvQ rfl (lnQ rfl rfl rfl (zaa hr.sq)) (zbf 1 rfl ?_))))))
 refine zau ?_
 refine lkQ3 (α := Nat) (β := List Int) (γ := Value) [0, 1, 2, 10, 11] rfl (fun i zs zv => [rowE 3 1 zv zs.length (zs.map (Value.int .i64)), boxE b1 #[.int .i64 n.ins, n.sv, n.av, n.ov] 28]) (fun i zs zv => [(3, zv), (12, .int .i64 (i : Int))]) (fun i zs zv => i ≤ n.ss.length ∧ zs = mnL (KiM n) i) (fun i zs zv => n.ss.length - i) 0 [] _ ⟨Nat.zero_le _, rfl⟩ (saQ rfl) (pfQ rfl) ?_
 intro i zs zv hi3
 obtain ⟨hi, hz⟩ := hi3
 have hzl : zs.length = i := by rw [hz]; exact mnL_len _ _
 refine srQ ?_
 refine zbk rfl rfl rfl rfl rfl rfl (fun h4 => ?_) (fun h4 => ?_)
 ·
  refine ntQ (tcQ rfl (zch (sbQ (zab (reQ 1 rfl (hvQ rfl (riQ 3 rfl rfl rfl rfl (zaa hr.sq)) ?_))))))
  refine hvQ rfl (zct (us := [.int .i64 ((n.ss.getD i sq0).kd), .int .i64 ((n.ss.getD i sq0).it), (n.ss.getD i sq0).iv]) rfl rfl rfl rfl (zaa hr.sq) (by omega) rfl (zdx sqC 3 (fun _ => rfl) n.ss sq0 (show i < _ by omega) rfl)) (zea rfl (zcf (z := .agg #[.int .i64 0, .int .i64 0, .slice none 0 0]) rfl rfl) ?_)
  intro b5
  refine zai 1 rfl (zcp (cs' := #[.int .i64 ((n.ss.getD i sq0).kd), .int .i64 ((n.ss.getD i sq0).it), (n.ss.getD i sq0).iv]) (i := 0) (off := 0) (us := [.int .i64 ((n.ss.getD i sq0).kd), .int .i64 ((n.ss.getD i sq0).it), (n.ss.getD i sq0).iv]) rfl rfl rfl rfl rfl rfl rfl (zap rfl (zap rfl (zap (hr.at (k := i) (by omega)).one zce))) rfl rfl rfl ?_)
  refine ntQ (zbe 2 rfl (zab (zab (reQ 1 rfl (?_)))))
  refine ntQ (zau ?_)
  refine lkQ2 (α := Nat) (β := Int) [0, 1, 2, 3, 4, 5, 10, 11, 12, 13] rfl (fun j ow => [boxE b5 #[.int .i64 ((n.ss.getD i sq0).kd), .int .i64 ((n.ss.getD i sq0).it), (n.ss.getD i sq0).iv] 43, rowE 3 1 zv zs.length (zs.map (Value.int .i64)), boxE b1 #[.int .i64 n.ins, n.sv, n.av, n.ov] 28]) (fun j ow => [(6, .int .i64 ow), (7, .int .i64 (j : Int))]) (fun j ow => j ≤ i ∧ (0 ≤ ow ∧ ow ≤ (i : Int)) ∧ UpP (KiM n) i j ow.toNat) (fun j ow => i - j) 0 (i : Int) ⟨Nat.zero_le _, by omega, by rw [Int.toNat_natCast]; exact UpP.start _ _⟩ (saQ rfl) (pfQ rfl) ?_
  intro j ow hi6
  obtain ⟨hj, how, hup⟩ := hi6
  refine zab (zab (reQ 2 rfl ?_))
  refine zbk rfl rfl rfl rfl rfl rfl (fun h7 => ?_) (fun h7 => ?_)
  ·
   refine zai 3 rfl (zcs rfl rfl rfl rfl rfl rfl (fun h8 => ?_) (fun h8 => ?_))
   ·
    refine zbf 1 rfl (zan rfl (zch (sbQ (zab ?_))))
    rcases Bool.eq_false_or_eq_true (((n.ss.getD i sq0).kd) == 0) with hb9 | hb9
    ·
     have hb9p : (n.ss.getD i sq0).kd = 0 := beq_iff_eq.1 hb9
     rcases Bool.eq_false_or_eq_true (((n.ss.getD j sq0).kd) == 0) with hb10 | hb10
     ·
      have hb10p : (n.ss.getD j sq0).kd = 0 := beq_iff_eq.1 hb10
      rcases Bool.eq_false_or_eq_true (((n.ss.getD j sq0).it) == ((n.ss.getD i sq0).it)) with hb11 | hb11
      ·
       have hb11p : (n.ss.getD j sq0).it = (n.ss.getD i sq0).it := beq_iff_eq.1 hb11
       refine zbd 23 [[], [0], [1], [2], [3], [3, 4], [3], [3, 5, 6], [3, 7], [3, 8], [3, 9], [3, 10], [11], [12], [12, 13], [12], [12, 14, 15], [12, 16], [12, 17], [12], [12, 19], [12, 18, 20], [12, 21]] [28, 29, 30, 31, 32, 33, 34, 35, 36, 37, 38, 39, 40, 41, 42, 43, 44, 45, 46, 47, 48, 49, 50] [.pointer (some ⟨b5, 0 + 0, none⟩), .int .i64 ((n.ss.getD i sq0).kd), .bool true, .bool true, .pointer (some ⟨b1, 0 + 1, none⟩), n.sv, .int .i64 (j : Int), elP n.sv (((j : Int)).toNat * 3), elP n.sv (((j : Int)).toNat * 3 + 0), .int .i64 ((n.ss.getD j sq0).kd), .bool true, .bool true, .bool true, .pointer (some ⟨b1, 0 + 1, none⟩), n.sv, .int .i64 (j : Int), elP n.sv (((j : Int)).toNat * 3), elP n.sv (((j : Int)).toNat * 3 + 1), .int .i64 ((n.ss.getD j sq0).it), .pointer (some ⟨b5, 0 + 1, none⟩), .int .i64 ((n.ss.getD i sq0).it), .bool true, .bool true] (by kernel_rfl) rfl ?_ ?_
       ·
        exact ⟨iaQ rfl (fdQ 0 rfl rfl rfl) rfl, iaQ rfl (zae rfl rfl rfl (zac 0 rfl rfl)) rfl, .inl ⟨rfl, zbx (zbl rfl rfl rfl rfl) hb9⟩, iaQ rfl (zaf rfl) rfl, iaQ rfl (fdQ 1 rfl rfl rfl) rfl, iaQ rfl (zae rfl rfl rfl (zac 2 rfl rfl)) rfl, iaQ rfl (zaf rfl) rfl, iaQ rfl (riQ 3 rfl rfl rfl rfl (zaa hr.sq)) rfl, iaQ rfl (zaw (k0 := 0) rfl rfl rfl (zaa hr.sq) (by omega)) rfl, iaQ rfl (zal (u := .int .i64 ((n.ss.getD j sq0).kd)) rfl rfl rfl (zaa hr.sq) ((zbj sqC 3 (fun _ => rfl) n.ss sq0 (show j < _ by omega) (by decide)).trans rfl)) rfl, .inl ⟨rfl, zbx (zbl rfl rfl rfl rfl) hb10⟩, iaQ rfl (zaf rfl) rfl, iaQ rfl (zaf rfl) rfl, iaQ rfl (fdQ 1 rfl rfl rfl) rfl, iaQ rfl (zae rfl rfl rfl (zac 2 rfl rfl)) rfl, iaQ rfl (zaf rfl) rfl, iaQ rfl (riQ 3 rfl rfl rfl rfl (zaa hr.sq)) rfl, iaQ rfl (zaw (k0 := 1) rfl rfl rfl (zaa hr.sq) (by omega)) rfl, iaQ rfl (zal (u := .int .i64 ((n.ss.getD j sq0).it)) rfl rfl rfl (zaa hr.sq) ((zbj sqC 3 (fun _ => rfl) n.ss sq0 (show j < _ by omega) (by decide)).trans rfl)) rfl, iaQ rfl (fdQ 1 rfl rfl rfl) rfl, iaQ rfl (zae rfl rfl rfl (zac 0 rfl rfl)) rfl, .inl ⟨rfl, zbx (zbl rfl rfl rfl rfl) hb11⟩, iaQ rfl (zaf rfl) rfl, trivial⟩
       simp only [List.drop_succ_cons, List.drop_zero]
       refine ntQ (zan rfl (zar (enQ 2 rfl (zcj (reQ 1 rfl (hvQ rfl (vaQ rfl rfl rfl) (zai 1 rfl ?_)))))))
       exact zbw (zbg (j + 1) (j : Int) ⟨by omega, by omega, by rw [Int.toNat_natCast]; exact UpP.hit (by rw [show ow.toNat = i by omega] at hup; exact hup) (by omega) ⟨⟨by omega, by omega⟩, by omega⟩⟩ (by omega) (saQ rfl) (pfQ rfl))
      have hb11p : (n.ss.getD j sq0).it ≠ (n.ss.getD i sq0).it := beq_eq_false_iff_ne.1 hb11
      refine zbd 23 [[], [0], [1], [2], [3], [3, 4], [3], [3, 5, 6], [3, 7], [3, 8], [3, 9], [3, 10], [11], [12], [12, 13], [12], [12, 14, 15], [12, 16], [12, 17], [12], [12, 19], [12, 18, 20], [12, 21]] [28, 29, 30, 31, 32, 33, 34, 35, 36, 37, 38, 39, 40, 41, 42, 43, 44, 45, 46, 47, 48, 49, 50] [.pointer (some ⟨b5, 0 + 0, none⟩), .int .i64 ((n.ss.getD i sq0).kd), .bool true, .bool true, .pointer (some ⟨b1, 0 + 1, none⟩), n.sv, .int .i64 (j : Int), elP n.sv (((j : Int)).toNat * 3), elP n.sv (((j : Int)).toNat * 3 + 0), .int .i64 ((n.ss.getD j sq0).kd), .bool true, .bool true, .bool true, .pointer (some ⟨b1, 0 + 1, none⟩), n.sv, .int .i64 (j : Int), elP n.sv (((j : Int)).toNat * 3), elP n.sv (((j : Int)).toNat * 3 + 1), .int .i64 ((n.ss.getD j sq0).it), .pointer (some ⟨b5, 0 + 1, none⟩), .int .i64 ((n.ss.getD i sq0).it), .bool false, .bool false] (by kernel_rfl) rfl ?_ ?_
      ·
       exact ⟨iaQ rfl (fdQ 0 rfl rfl rfl) rfl, iaQ rfl (zae rfl rfl rfl (zac 0 rfl rfl)) rfl, .inl ⟨rfl, zbx (zbl rfl rfl rfl rfl) hb9⟩, iaQ rfl (zaf rfl) rfl, iaQ rfl (fdQ 1 rfl rfl rfl) rfl, iaQ rfl (zae rfl rfl rfl (zac 2 rfl rfl)) rfl, iaQ rfl (zaf rfl) rfl, iaQ rfl (riQ 3 rfl rfl rfl rfl (zaa hr.sq)) rfl, iaQ rfl (zaw (k0 := 0) rfl rfl rfl (zaa hr.sq) (by omega)) rfl, iaQ rfl (zal (u := .int .i64 ((n.ss.getD j sq0).kd)) rfl rfl rfl (zaa hr.sq) ((zbj sqC 3 (fun _ => rfl) n.ss sq0 (show j < _ by omega) (by decide)).trans rfl)) rfl, .inl ⟨rfl, zbx (zbl rfl rfl rfl rfl) hb10⟩, iaQ rfl (zaf rfl) rfl, iaQ rfl (zaf rfl) rfl, iaQ rfl (fdQ 1 rfl rfl rfl) rfl, iaQ rfl (zae rfl rfl rfl (zac 2 rfl rfl)) rfl, iaQ rfl (zaf rfl) rfl, iaQ rfl (riQ 3 rfl rfl rfl rfl (zaa hr.sq)) rfl, iaQ rfl (zaw (k0 := 1) rfl rfl rfl (zaa hr.sq) (by omega)) rfl, iaQ rfl (zal (u := .int .i64 ((n.ss.getD j sq0).it)) rfl rfl rfl (zaa hr.sq) ((zbj sqC 3 (fun _ => rfl) n.ss sq0 (show j < _ by omega) (by decide)).trans rfl)) rfl, iaQ rfl (fdQ 1 rfl rfl rfl) rfl, iaQ rfl (zae rfl rfl rfl (zac 0 rfl rfl)) rfl, .inl ⟨rfl, zbx (zbl rfl rfl rfl rfl) hb11⟩, iaQ rfl (zaf rfl) rfl, trivial⟩
      simp only [List.drop_succ_cons, List.drop_zero]
      refine ntQ (fsQ rfl (zcj (reQ 1 rfl (hvQ rfl (vaQ rfl rfl rfl) (enQ 1 rfl ?_)))))
      exact zbg (j + 1) ow ⟨by omega, by omega, by rw [show ow.toNat = i by omega] at hup ⊢; exact UpP.miss hup (fun h9 => by have h8 := h9.1; have h7 := h9.2; omega)⟩ (by omega) (saQ rfl) (pfQ rfl)
     have hb10p : (n.ss.getD j sq0).kd ≠ 0 := beq_eq_false_iff_ne.1 hb10
     refine zbd 23 [[], [0], [1], [2], [3], [3, 4], [3], [3, 5, 6], [3, 7], [3, 8], [3, 9], [3, 10], [11], [12], [12], [12], [12], [12], [12], [12], [12], [12], [12, 21]] [28, 29, 30, 31, 32, 33, 34, 35, 36, 37, 38, 39, 40, 41, 42, 43, 44, 45, 46, 47, 48, 49, 50] [.pointer (some ⟨b5, 0 + 0, none⟩), .int .i64 ((n.ss.getD i sq0).kd), .bool true, .bool true, .pointer (some ⟨b1, 0 + 1, none⟩), n.sv, .int .i64 (j : Int), elP n.sv (((j : Int)).toNat * 3), elP n.sv (((j : Int)).toNat * 3 + 0), .int .i64 ((n.ss.getD j sq0).kd), .bool false, .bool false, .bool false, undef, undef, undef, undef, undef, undef, undef, undef, undef, .bool false] (by kernel_rfl) rfl ?_ ?_
     ·
      exact ⟨iaQ rfl (fdQ 0 rfl rfl rfl) rfl, iaQ rfl (zae rfl rfl rfl (zac 0 rfl rfl)) rfl, .inl ⟨rfl, zbx (zbl rfl rfl rfl rfl) hb9⟩, iaQ rfl (zaf rfl) rfl, iaQ rfl (fdQ 1 rfl rfl rfl) rfl, iaQ rfl (zae rfl rfl rfl (zac 2 rfl rfl)) rfl, iaQ rfl (zaf rfl) rfl, iaQ rfl (riQ 3 rfl rfl rfl rfl (zaa hr.sq)) rfl, iaQ rfl (zaw (k0 := 0) rfl rfl rfl (zaa hr.sq) (by omega)) rfl, iaQ rfl (zal (u := .int .i64 ((n.ss.getD j sq0).kd)) rfl rfl rfl (zaa hr.sq) ((zbj sqC 3 (fun _ => rfl) n.ss sq0 (show j < _ by omega) (by decide)).trans rfl)) rfl, .inl ⟨rfl, zbx (zbl rfl rfl rfl rfl) hb10⟩, iaQ rfl (zaf rfl) rfl, iaQ rfl (zaf rfl) rfl, .inr ⟨rfl, rfl⟩, .inr ⟨rfl, rfl⟩, .inr ⟨rfl, rfl⟩, .inr ⟨rfl, rfl⟩, .inr ⟨rfl, rfl⟩, .inr ⟨rfl, rfl⟩, .inr ⟨rfl, rfl⟩, .inr ⟨rfl, rfl⟩, .inr ⟨rfl, rfl⟩, iaQ rfl (zaf rfl) rfl, trivial⟩
     simp only [List.drop_succ_cons, List.drop_zero]
     refine ntQ (fsQ rfl (zcj (reQ 1 rfl (hvQ rfl (vaQ rfl rfl rfl) (enQ 1 rfl ?_)))))
     exact zbg (j + 1) ow ⟨by omega, by omega, by rw [show ow.toNat = i by omega] at hup ⊢; exact UpP.miss hup (fun h9 => by have h8 := h9.1; have h7 := h9.2; omega)⟩ (by omega) (saQ rfl) (pfQ rfl)
    have hb9p : (n.ss.getD i sq0).kd ≠ 0 := beq_eq_false_iff_ne.1 hb9
    refine zbd 23 [[], [0], [1], [2], [3], [3], [3], [3], [3], [3], [3], [3, 10], [11], [12], [12], [12], [12], [12], [12], [12], [12], [12], [12, 21]] [28, 29, 30, 31, 32, 33, 34, 35, 36, 37, 38, 39, 40, 41, 42, 43, 44, 45, 46, 47, 48, 49, 50] [.pointer (some ⟨b5, 0 + 0, none⟩), .int .i64 ((n.ss.getD i sq0).kd), .bool false, .bool false, undef, undef, undef, undef, undef, undef, undef, .bool false, .bool false, undef, undef, undef, undef, undef, undef, undef, undef, undef, .bool false] (by kernel_rfl) rfl ?_ ?_
    ·
     exact ⟨iaQ rfl (fdQ 0 rfl rfl rfl) rfl, iaQ rfl (zae rfl rfl rfl (zac 0 rfl rfl)) rfl, .inl ⟨rfl, zbx (zbl rfl rfl rfl rfl) hb9⟩, iaQ rfl (zaf rfl) rfl, .inr ⟨rfl, rfl⟩, .inr ⟨rfl, rfl⟩, .inr ⟨rfl, rfl⟩, .inr ⟨rfl, rfl⟩, .inr ⟨rfl, rfl⟩, .inr ⟨rfl, rfl⟩, .inr ⟨rfl, rfl⟩, iaQ rfl (zaf rfl) rfl, iaQ rfl (zaf rfl) rfl, .inr ⟨rfl, rfl⟩, .inr ⟨rfl, rfl⟩, .inr ⟨rfl, rfl⟩, .inr ⟨rfl, rfl⟩, .inr ⟨rfl, rfl⟩, .inr ⟨rfl, rfl⟩, .inr ⟨rfl, rfl⟩, .inr ⟨rfl, rfl⟩, .inr ⟨rfl, rfl⟩, iaQ rfl (zaf rfl) rfl, trivial⟩
    simp only [List.drop_succ_cons, List.drop_zero]
    refine ntQ (fsQ rfl (zcj (reQ 1 rfl (hvQ rfl (vaQ rfl rfl rfl) (enQ 1 rfl ?_)))))
    exact zbg (j + 1) ow ⟨by omega, by omega, by rw [show ow.toNat = i by omega] at hup ⊢; exact UpP.miss hup (fun h9 => by have h8 := h9.1; have h7 := h9.2; omega)⟩ (by omega) (saQ rfl) (pfQ rfl)
   refine zbf 1 rfl (zak rfl ?_)
   refine zbb (zda ?_)
   refine zad (zas (reQ 2 rfl ?_))
   refine hrwQ rfl (zay (z := .int .i64 0) (s := 1) (cs := ([ow].map (Value.int .i64))) rfl Try.underlying26 rfl (by decide) rfl (by kernel_rfl) rfl) ?_
   intro g12
   refine zck (i := 2) (z := .int .i64 0) (bytes := 8) rfl rfl rfl rfl Try.underlying26 (by kernel_rfl) rfl rfl rfl rfl (zao 0 rfl) (zbv _) (by first | omega | (simp; done) | (simp; omega)) (zca zs ([ow])) (zby zs ([ow])) (fun _ => rfl) ?_
   intro v13
   refine enQ 1 rfl (zcj (zar (hvQ rfl (vaQ rfl rfl rfl) (enQ 1 rfl ?_))))
   have hkm : ow = (mnI (KiM n) i : Int) := by have h9 := hup.fin (by omega); omega
   exact zbh (i + 1) (zs ++ ([ow])) v13 ⟨by omega, by rw [mnL_succ, ← hz, ← hkm]⟩ (by omega) (saQ rfl) (slQ [2, 0] rfl)
  refine zbf 5 rfl (zak rfl ?_)
  refine zbb (zda ?_)
  refine zad (zas (reQ 2 rfl ?_))
  refine hrwQ rfl (zay (z := .int .i64 0) (s := 1) (cs := ([ow].map (Value.int .i64))) rfl Try.underlying26 rfl (by decide) rfl (by kernel_rfl) rfl) ?_
  intro g14
  refine zck (i := 2) (z := .int .i64 0) (bytes := 8) rfl rfl rfl rfl Try.underlying26 (by kernel_rfl) rfl rfl rfl rfl (zao 0 rfl) (zbv _) (by first | omega | (simp; done) | (simp; omega)) (zca zs ([ow])) (zby zs ([ow])) (fun _ => rfl) ?_
  intro v15
  refine enQ 1 rfl (zcj (zar (hvQ rfl (vaQ rfl rfl rfl) (enQ 1 rfl ?_))))
  have hkm : ow = (mnI (KiM n) i : Int) := by have h9 := hup.fin (by omega); omega
  exact zbh (i + 1) (zs ++ ([ow])) v15 ⟨by omega, by rw [mnL_succ, ← hz, ← hkm]⟩ (by omega) (saQ rfl) (slQ [2, 0] rfl)
 refine ntQ (fcQ rfl ?_)
 refine zbb (zda ?_)
 refine zad (zas (zau ?_))
 have hze : zs = mnL (KiM n) n.ss.length := by rw [hz, show i = n.ss.length by omega]
 rw [hze]
 refine lkQ2 (α := List Int) (β := Value) [0, 1, 2, 10, 11, 12, 13] rfl (fun cs v => [rowE 3 1 v cs.length (cs.map (Value.int .i64)), boxE b1 #[.int .i64 n.ins, n.sv, n.av, n.ov] 28]) (fun cs v => [(3, v)]) (fun cs v => ClQ n.ss.length cs) (fun cs v => n.ss.length + 1 - rpN cs) (mnL (KiM n) n.ss.length) _ (mnL_ok KiM.tr _) (saQ rfl) (pfQ rfl) ?_
 intro cs v hi16
 have hq := hi16
 have hcl := hq.len
 have hrp := rpN_le hcl
 refine zau (zab (zab ?_))
 rcases Bool.eq_false_or_eq_true (decide (10 < n.ins + (rpN cs : Int))) with hb17 | hb17
 ·
  have hb17p : 10 < n.ins + (rpN cs : Int) := of_decide_eq_true hb17
  refine zbd 6 [[], [0], [], [2], [1, 3], [4]] [57, 58, 59, 60, 61, 62] [.pointer (some ⟨b1, 0 + 0, none⟩), .int .i64 n.ins, v, .int .i64 (rpN cs : Int), .int .i64 (n.ins + (rpN cs : Int)), .bool true] (by kernel_rfl) rfl ?_ ?_
  ·
   exact ⟨iaQ rfl (fdQ 0 rfl rfl rfl) rfl, iaQ rfl (zae rfl rfl rfl (zac 1 rfl rfl)) rfl, iaQ rfl (zaf rfl) rfl, .inl ⟨rfl, zaj rfl rfl (fun w hm => zat (zcx cs v w ((zao 0 rfl) w hm)))⟩, iaQ rfl (vaQ rfl rfl rfl) rfl, .inl ⟨rfl, zbx (zbl rfl rfl rfl rfl) hb17⟩, trivial⟩
  simp only [List.drop_succ_cons, List.drop_zero]
  refine ntQ (zan rfl (srQ (hvQ rfl (zaz (cs := [.int .i64 n.ins, n.sv, n.av, n.ov]) rfl rfl rfl rfl rfl (zax 1 rfl 0 rfl)) ?_)))
  refine hl_q rfl rfl rfl (zaj rfl rfl (fun w hm => ownClasses_ret n w (hr.below hm.bel) hn)) ?_
  intro v18 p19 hR20
  obtain ⟨owhR20, rfl, holhR20⟩ := hR20
  refine zbf 1 rfl ?_
  refine zav (zam ?_)
  refine zah (zam ?_)
  exact zah (zcw (post := [rowE 3 1 v18 owhR20.length (owhR20.map (Value.int .i64))]) rfl rfl (slQ [0] rfl) ⟨_, rfl, by first | exact hq.len | omega⟩)
 have hb17p : ¬ (10 < n.ins + (rpN cs : Int)) := of_decide_eq_false hb17
 refine zbd 6 [[], [0], [], [2], [1, 3], [4]] [57, 58, 59, 60, 61, 62] [.pointer (some ⟨b1, 0 + 0, none⟩), .int .i64 n.ins, v, .int .i64 (rpN cs : Int), .int .i64 (n.ins + (rpN cs : Int)), .bool false] (by kernel_rfl) rfl ?_ ?_
 ·
  exact ⟨iaQ rfl (fdQ 0 rfl rfl rfl) rfl, iaQ rfl (zae rfl rfl rfl (zac 1 rfl rfl)) rfl, iaQ rfl (zaf rfl) rfl, .inl ⟨rfl, zaj rfl rfl (fun w hm => zat (zcx cs v w ((zao 0 rfl) w hm)))⟩, iaQ rfl (vaQ rfl rfl rfl) rfl, .inl ⟨rfl, zbx (zbl rfl rfl rfl rfl) hb17⟩, trivial⟩
 simp only [List.drop_succ_cons, List.drop_zero]
 refine ntQ (zak rfl (zch (zab (reQ 1 rfl (hvQ rfl (zaz (cs := [.int .i64 n.ins, n.sv, n.av, n.ov]) rfl rfl rfl rfl rfl (zax 1 rfl 0 rfl)) (zai 1 rfl ?_))))))
 refine hl_q rfl rfl rfl (zaj rfl rfl (fun w hm => inBits_ret n cs v w (hr.below hm.bel) hn ((zao 0 rfl) w hm) hq (by omega))) ?_
 intro v21 p22 hR23
 obtain ⟨B, rfl, hsr⟩ := hR23
 refine hl_q rfl rfl rfl (zaj rfl rfl (fun w hm => classesBy_ret n cs B v v21 w hn ((zao 1 rfl) w hm) ((zao 0 rfl) w hm) hsr hq)) ?_
 intro v24 p25 hR26
 subst hR26
 refine zbf 1 rfl (zab (zab (reQ 2 rfl ?_)))
 refine zee rfl (zaj rfl rfl (fun w hm => zat (sameIntsC_ans (rfL n cs) cs _ _ w ((zao 0 rfl) w hm) ((zao 2 rfl) w hm)))) (zbo (fun h27 => ?_) (fun h27 => ?_))
 ·
  have h27p := of_decide_eq_true h27
  refine ntQ (zan rfl (zbe 2 rfl ?_))
  refine zav (zam ?_)
  refine zah (zam ?_)
  exact zah (zcw (post := [rowE 3 1 v cs.length (cs.map (Value.int .i64))]) rfl rfl (slQ [2] rfl) ⟨_, rfl, by first | exact hq.len | omega⟩)
 have h27p := of_decide_eq_false h27
 refine ntQ (zak rfl (zch (zar (enQ 2 rfl (zdf ?_)))))
 exact zbg (rfL n cs) v24 (rfL_ok n cs) (by have h9 := rf_more hq (show ¬ rfL n cs = cs by assumption); have h8 := rpN_le (rfL_ok n cs).len; omega) (saQ rfl) (slQ [0, 2] rfl)
theorem RegisterClasses_ret (n : Nt) (w : World) (hr : RdsNt w n) (hn : NtOk n) :
   Calls Try.prog 12 #[.agg #[.int .i64 n.ins, n.sv, n.av, n.ov]] w (Ret w (fun u_ p_ => ∃ zs : List Int, p_ = [rowE 3 1 u_ zs.length (zs.map (Value.int .i64))] ∧ zs.length = n.ss.length)) := by
 have hi0 := hn.i0
 have hi1 := hn.i1
 have hs1 := hn.s1
 have ha1 := hn.a1
 have ho1 := hn.o1
 have hcnt : n.cnt = 1 + n.ins + n.ss.length + n.gs.length := rfl
 have hfst : n.fst = 1 + n.ins + n.ss.length := rfl
 refine zba (N := 8) (args := [.agg #[.int .i64 n.ins, n.sv, n.av, n.ov]]) Try.func12 rfl rfl (srQ ?_)
 refine zea rfl (zcg rfl rfl) ?_
 intro b1
 refine zbf 1 rfl (ssrQ (hvQ rfl (zaz (cs := [.int .i64 n.ins, n.sv, n.av, n.ov]) rfl rfl rfl rfl rfl (zax 0 rfl 0 rfl)) ?_))
 refine zee rfl (zaj rfl rfl (fun w hm => zat (zdw n w (hr.below hm.bel) hn))) (zbf 1 rfl (zak rfl (zch (srQ (hvQ rfl (zaz (cs := [.int .i64 n.ins, n.sv, n.av, n.ov]) rfl rfl rfl rfl rfl (zax 0 rfl 0 rfl)) ?_)))))
 refine hl_q rfl rfl rfl (zaj rfl rfl (fun w hm => registerClasses_ret n w (hr.below hm.bel) hn)) ?_
 intro v2 p3 hR4
 obtain ⟨rzhR4, rfl, hrlhR4⟩ := hR4
 refine zbf 1 rfl ?_
 exact zav (zcw (post := [rowE 3 1 v2 rzhR4.length (rzhR4.map (Value.int .i64))]) rfl rfl (slQ [0] rfl) ⟨_, rfl, by assumption⟩)
theorem packLits_ans (xs ns : List Int) (v u : Value) (w : World) (hv : RdsW w v 1 xs.length (xs.map (Value.int .i64))) (hu : RdsW w u 1 ns.length (ns.map (Value.int .i64))) (hxl : xs.length ≤ 1000) (hl : ns.length ≤ 16) (hns : ∀ q, q < ns.length → 0 ≤ ns.getD q 0 ∧ ns.getD q 0 < 2 * xs.length) (hb9 : B01 xs) :
   Calls Try.prog 49 #[v, u] w (Ans w (.int .i64 (pk (atB xs ns) ns.length))) := by
 refine zba (N := 25) (args := [v, u]) Try.func49 rfl rfl (zbe 1 rfl (zbe 1 rfl (zab ?_)))
 refine zab (reQ 1 rfl (hvQ rfl (lnQ rfl rfl rfl (zaa hu)) (zbf 1 rfl (zau ?_))))
 refine lkQ2 (α := Nat) (β := Int) [0, 1, 4, 8, 9] rfl (fun k q => []) (fun k q => [(5, .int .i64 q), (10, .int .i64 (k : Int))]) (fun k q => k ≤ ns.length ∧ q = pk (atB xs ns) k) (fun k q => ns.length - k) 0 0 ⟨Nat.zero_le _, rfl⟩ (saQ rfl) (.slnil) ?_
 intro k q hi1
 obtain ⟨hk, hq⟩ := hi1
 refine srQ ?_
 refine zbk rfl rfl rfl rfl rfl rfl (fun h2 => ?_) (fun h2 => ?_)
 ·
  refine ntQ (tcQ rfl (zch (sbQ (zab (reQ 1 rfl (hvQ rfl (riQ 1 rfl rfl rfl rfl (zaa hu)) (hvQ rfl (liQ rfl rfl rfl (zaa hu)) ?_)))))))
  refine zbf 2 rfl (zar ?_)
  have hnk := hns k (by omega)
  have h01 : ∀ z, z ≤ k → atB xs ns z = 0 ∨ atB xs ns z = 1 := fun z hz => bit01 hb9 (hns z (by omega)).1 (hns z (by omega)).2
  have hbk := h01 k (Nat.le_refl _)
  have hbk2 : bitL xs (ns.getD k 0) = 0 ∨ bitL xs (ns.getD k 0) = 1 := hbk
  have hpr := pk_16 (b := atB xs ns) (k := k) (fun z hz => h01 z (by omega)) (by omega)
  have hpw := pow16T (k := k) (by omega)
  have hpw0 : (0 : Int) < 2 ^ k := Int.pow_pos (by decide)
  have hbx := hb9 (ns.getD k 0 / 2).toNat (by omega)
  refine zai 3 rfl (zee rfl (zaj rfl rfl (fun w hm => zat (zde xs (ns.getD k 0) _ w ((zaa hv) w hm) (by omega) (by first | assumption | omega) (by omega)))) ?_)
  refine zai 1 rfl (hvQ rfl (rv_conv rfl Try.underlying3 Try.underlying60 rfl (IntWalk.u64_in _ (by omega))) (hvQ rfl (rv_shlG (k := .i64) (kk := .u64) (r := bitL xs (ns.getD k 0) * 2 ^ k) rfl rfl rfl rfl (by omega) (shl_pk16 hbk2 (by omega))) ?_))
  refine hvQ rfl (zcl rfl (by decide) rfl rfl (r := pk (atB xs ns) (k + 1)) (by rw [hq]; exact or_pk16 (fun z hz => h01 z (by omega)) hbk (by omega))) (enQ 1 rfl (zcj (zar (hvQ rfl (vaQ rfl rfl rfl) (enQ 1 rfl ?_)))))
  exact zbg (k + 1) _ ⟨by omega, by first | rfl | (rw [hq]; rfl)⟩ (by omega) (saQ rfl) (.slnil)
 refine ntQ (fcQ rfl ?_)
 refine zbb (zda ?_)
 refine zad (zas (zbe 2 rfl ?_))
 exact zav (zbi rfl rfl (by rw [hq, show k = ns.length by omega]))
theorem seqNextF_ans (v x : Int) (w : World) (hv : 0 ≤ v ∧ v ≤ 1) (hx : 0 ≤ x ∧ x < 4294967296) :
   Calls Try.prog 48 #[.int .i64 0, .int .i64 v, .int .i64 x] w (Ans w (.int .i64 (x % 2))) := by
 refine zba (N := 44) (args := [.int .i64 0, .int .i64 v, .int .i64 x]) Try.func48 rfl rfl (zbe 1 rfl (zab (zab (reQ 2 rfl ?_))))
 refine zee rfl (zaj rfl rfl (fun w hm => zat (ans_of (seqMost_flop w)))) (zee rfl (zaj rfl rfl (fun w hm => zat (ans_of (zci _ _ _ w)))) ?_)
 refine zbo (fun h1 => ?_) (fun h1 => absurd ((((zcn _ _ _).2 (by omega))).symm.trans h1) (by decide))
 refine zbf 1 rfl (zak rfl (zch (zab (zab (reQ 1 rfl ?_)))))
 refine zcs rfl rfl rfl rfl rfl rfl (fun h2 => ?_) (fun h2 => absurd h2 (by omega))
 refine ntQ (zan rfl (zab (reQ 1 rfl (hvQ rfl (zcl rfl (by decide) rfl rfl (r := x % 2) (Bit.and_one _ hx.1 hx.2)) (zbf 1 rfl ?_)))))
 refine zav (zam ?_)
 exact zbi rfl rfl rfl
theorem seqNextC_ans (kd v x : Int) (w : World) (hk : kd = 0 ∨ kd = 1) (hv : 0 ≤ v ∧ v ≤ 31 ∧ (kd = 0 → v ≤ 1)) (hx : 0 ≤ x ∧ x < 65536) (h16 : kd = 1 → x < 16) : Calls Try.prog 48 #[.int .i64 kd, .int .i64 v, .int .i64 x] w (Ans w (.int .i64 (snC kd v x))) := by
  rcases hk with rfl | rfl
  · exact seqNextF_ans v x w (by omega) (by omega)
  · have h := seqNext_ram v.toNat x.toNat (by omega) (by omega) w
    rw [Int.toNat_of_nonneg (by omega), Int.toNat_of_nonneg (by omega)] at h
    exact ans_of h
theorem ltos_at {n : Nt} {xs : List Int} (h : ∀ x ∈ xs, LtOk x n.cnt) {q : Nat} (hq : q < xs.length) : 0 ≤ xs.getD q 0 ∧ xs.getD q 0 < 2 * n.cnt := h _ (zbc hq)
theorem netStep_ret (n : Nt) (st : List Int) (v : Value) (inp : Int) (w : World) (hr : RdsNt w n) (hn : NtOk n) (hst : RdsW w v 1 st.length (st.map (Value.int .i64))) (hso : StOk n st) :
   Calls Try.prog 28 #[.agg #[.int .i64 n.ins, n.sv, n.av, n.ov], v, .int .i64 inp] w (Ret w (fun u_ p_ => ∃ (nv : Value) (x9 : Int), u_ = .tuple #[nv, .int .i64 x9] ∧ p_ = [rowE 3 1 nv (nxL n st inp n.ss.length).length ((nxL n st inp n.ss.length).map (Value.int .i64))])) := by
 have hi0 := hn.i0
 have hi1 := hn.i1
 have hs1 := hn.s1
 have ha1 := hn.a1
 have ho1 := hn.o1
 have hcnt : n.cnt = 1 + n.ins + n.ss.length + n.gs.length := rfl
 have hfst : n.fst = 1 + n.ins + n.ss.length := rfl
 have hsl := hso.len
 refine zba (N := 44) (args := [.agg #[.int .i64 n.ins, n.sv, n.av, n.ov], v, .int .i64 inp]) Try.func28 rfl rfl (srQ ?_)
 refine zea rfl (zcg rfl rfl) ?_
 intro b1
 refine zbf 2 rfl (srQ (hvQ rfl (zaz (cs := [.int .i64 n.ins, n.sv, n.av, n.ov]) rfl rfl rfl rfl rfl (zax 0 rfl 0 rfl)) (zai 2 rfl ?_)))
 refine hl_q rfl rfl rfl (zaj rfl rfl (fun w hm => zeg n st _ inp w (hr.below hm.bel) hn (hst.below hm.bel) hso)) ?_
 intro v2 p3 hR4
 subst hR4
 refine zbf 1 rfl (srQ ?_)
 refine zep 3 1 (zbf 1 rfl (ssrQ (hvQ rfl (fdQ 1 rfl rfl rfl) (hvQ rfl (zae rfl rfl rfl (zac 2 rfl rfl)) (hvQ rfl (lnQ rfl rfl rfl (zaa hr.sq)) (zbf 1 rfl ?_))))))
 refine zau ?_
 have hvl : (valsL n st inp).length = 1 + n.ins.toNat + st.length + n.gs.length := zdi n st inp n.gs.length (Nat.le_refl _)
 have hv01 : B01 (valsL n st inp) := val01 hn hsl inp n.gs.length (Nat.le_refl _)
 refine lkQ3 (α := Nat) (β := List Int) (γ := Value) [0, 1, 2, 3, 6, 7, 8, 17, 18] rfl (fun k zs zv => [rowE 3 1 zv zs.length (zs.map (Value.int .i64)), rowE 3 1 v2 ((valsL n st inp).length) ((valsL n st inp).map (Value.int .i64)), boxE b1 #[.int .i64 n.ins, n.sv, n.av, n.ov] 28]) (fun k zs zv => [(9, zv), (19, .int .i64 (k : Int))]) (fun k zs zv => k ≤ n.ss.length ∧ zs = nxL n st inp k) (fun k zs zv => n.ss.length - k) 0 [] _ ⟨Nat.zero_le _, rfl⟩ (saQ rfl) (pfQ rfl) ?_
 intro k zs zv hi6
 obtain ⟨hk, hz⟩ := hi6
 have hzl : zs.length = k := by rw [hz]; exact nxL_len _ _ _ _
 refine srQ ?_
 refine zbk rfl rfl rfl rfl rfl rfl (fun h7 => ?_) (fun h7 => ?_)
 ·
  refine ntQ (tcQ rfl (zch (sbQ (zab (reQ 1 rfl (hvQ rfl (riQ 3 rfl rfl rfl rfl (zaa hr.sq)) ?_))))))
  refine hvQ rfl (zct (us := [.int .i64 ((n.ss.getD k sq0).kd), .int .i64 ((n.ss.getD k sq0).it), (n.ss.getD k sq0).iv]) rfl rfl rfl rfl (zaa hr.sq) (by omega) rfl (zdx sqC 3 (fun _ => rfl) n.ss sq0 (show k < _ by omega) rfl)) (zea rfl (zcf (z := .agg #[.int .i64 0, .int .i64 0, .slice none 0 0]) rfl rfl) ?_)
  intro b8
  refine zai 1 rfl (zcp (cs' := #[.int .i64 ((n.ss.getD k sq0).kd), .int .i64 ((n.ss.getD k sq0).it), (n.ss.getD k sq0).iv]) (i := 0) (off := 0) (us := [.int .i64 ((n.ss.getD k sq0).kd), .int .i64 ((n.ss.getD k sq0).it), (n.ss.getD k sq0).iv]) rfl rfl rfl rfl rfl rfl rfl (zap rfl (zap rfl (zap (hr.at (k := k) (by omega)).one zce))) rfl rfl rfl ?_)
  refine ntQ ?_
  have hqk := (hn.sq _ (zbc (d := sq0) (show k < n.ss.length by omega))).kind
  have hrk := hso.rng k (by omega)
  have hlk := fun q (h9 : q < (n.ss.getD k sq0).xs.length) => ltos_at (hn.xs _ (zbc (d := sq0) (show k < n.ss.length by omega))) h9
  have hpk0 := pk_rng (b := atB (valsL n st inp) (n.ss.getD k sq0).xs) (n.ss.getD k sq0).xs.length (fun q h1 => vals_at hn hsl inp (hn.xs _ (zbc (d := sq0) (show k < n.ss.length by omega))) h1)
  have hpk9 : (0 ≤ pk (atB (valsL n st inp) (n.ss.getD k sq0).xs) (n.ss.getD k sq0).xs.length ∧ pk (atB (valsL n st inp) (n.ss.getD k sq0).xs) (n.ss.getD k sq0).xs.length < 16) := by
    have h4 : (2 : Int) ^ 4 = 16 := by decide
    have h1 : (2 : Int) ^ 1 = 2 := by decide
    rcases hqk with ⟨-, -, e⟩ | ⟨-, -, e⟩ <;> rw [e] at hpk0 ⊢ <;> omega
  refine hc_draw rfl 13 [0, 1, 2, 3, 4, 5, 6, 7, 8, 9, 10, 11, 12] (List.take 13 _) (List.drop 13 _) [[], [], [1], [], [], [3, 4], [5], [], [], [8], [7, 9], [2, 6, 10], [11]] [24, 25, 26, 27, 28, 29, 30, 31, 32, 33, 34, 35, 36] (fun i_ vs_ v_ p_ => match i_ with | 0 => v_ = zv ∧ p_ = [] | 1 => v_ = .pointer (some ⟨b8, 0 + 0, none⟩) ∧ p_ = [] | 2 => v_ = .int .i64 ((n.ss.getD k sq0).kd) ∧ p_ = [] | 3 => v_ = v ∧ p_ = [] | 4 => v_ = .int .i64 (k : Int) ∧ p_ = [] | 5 => v_ = elP v (((k : Int)).toNat * 1) ∧ p_ = [] | 6 => v_ = .int .i64 (st.getD k 0) ∧ p_ = [] | 7 => v_ = v2 ∧ p_ = [] | 8 => v_ = .pointer (some ⟨b8, 0 + 2, none⟩) ∧ p_ = [] | 9 => v_ = (n.ss.getD k sq0).iv ∧ p_ = [] | 10 => v_ = .int .i64 (pk (atB (valsL n st inp) ((n.ss.getD k sq0).xs)) ((n.ss.getD k sq0).xs).length) ∧ p_ = [] | 11 => v_ = .int .i64 (nxN n st inp k) ∧ p_ = [] | 12 => IsRow 3 1 1 ([nxN n st inp k].map (Value.int .i64)) v_ p_ | _ => True) (List.take_append_drop 13 _).symm (by kernel_rfl) (by kernel_rfl) rfl rfl ?_ ?_
  ·
   refine ⟨?_, ?_, ?_, ?_, ?_, ?_, ?_, ?_, ?_, ?_, ?_, ?_, ?_, trivial⟩
   ·
    intro vf pf hR
    exact ovQ rfl (zaq [9] rfl) (zbq (zaf rfl))
   ·
    intro vf pf hR
    exact ovQ rfl (zaq [11] rfl) (zbq (fdQ 0 rfl rfl rfl))
   ·
    intro vf pf hR
    have e1 := hR 1 (by decide)
    exact olQ rfl (sk 25 (congrArg some e1.1) (zag _)) (zbq (zae rfl rfl rfl (zac 0 rfl rfl)))
   ·
    intro vf pf hR
    exact ovQ rfl (zaq [1] rfl) (zbq (zaf rfl))
   ·
    intro vf pf hR
    exact ovQ rfl (zaq [10] rfl) (zbq (zaf rfl))
   ·
    intro vf pf hR
    have e3 := hR 3 (by decide)
    have e4 := hR 4 (by decide)
    exact olQ rfl (sk 27 (congrArg some e3.1) (sk 28 (congrArg some e4.1) (zag _))) (zbq (riQ 1 rfl rfl rfl rfl (zaa hst)))
   ·
    intro vf pf hR
    have e5 := hR 5 (by decide)
    exact olQ rfl (sk 29 (congrArg some e5.1) (zag _)) (zbq (liQ rfl rfl rfl (zaa hst)))
   ·
    intro vf pf hR
    exact ovQ rfl (zaq [8] rfl) (zbq (zaf rfl))
   ·
    intro vf pf hR
    exact ovQ rfl (zaq [11] rfl) (zbq (fdQ 2 rfl rfl rfl))
   ·
    intro vf pf hR
    have e8 := hR 8 (by decide)
    exact olQ rfl (sk 32 (congrArg some e8.1) (zag _)) (zbq (zae rfl rfl rfl (zac 0 rfl rfl)))
   ·
    intro vf pf hR
    have e7 := hR 7 (by decide)
    have e9 := hR 9 (by decide)
    exact olQ rfl (sk 31 (congrArg some e7.1) (sk 33 (congrArg some e9.1) (zag _))) (zaj rfl rfl (fun w hm => zat (packLits_ans (valsL n st inp) ((n.ss.getD k sq0).xs) _ _ w ((zao 2 rfl) w hm) ((hr.at (k := k) (by omega)).below hm.bel) (by omega) (by omega) (fun q h9 => by have h8 := hlk q h9; omega) hv01)))
   ·
    intro vf pf hR
    have e2 := hR 2 (by decide)
    have e6 := hR 6 (by decide)
    have e10 := hR 10 (by decide)
    exact olQ rfl (sk 26 (congrArg some e2.1) (sk 30 (congrArg some e6.1) (sk 34 (congrArg some e10.1) (zag _)))) (zaj rfl rfl (fun w hm => zat (seqNextC_ans ((n.ss.getD k sq0).kd) (st.getD k 0) (pk (atB (valsL n st inp) ((n.ss.getD k sq0).xs)) ((n.ss.getD k sq0).xs).length) w (by omega) ⟨by omega, by omega, hrk.2.2⟩ (by omega) (fun _ => by omega))))
   intro vf pf hR
   have e11 := hR 11 (by decide)
   exact olQ rfl (sk 35 (congrArg some e11.1) (zag _)) (zay (z := .int .i64 0) (s := 1) (cs := ([nxN n st inp k].map (Value.int .i64))) rfl Try.underlying26 rfl (by decide) rfl (by kernel_rfl) rfl)
  intro vf pf hR
  have e0 := hR 0 (by decide)
  have e12 : IsRow 3 1 1 ([nxN n st inp k].map (Value.int .i64)) (vf 12) (pf 12) := hR 12 (by decide)
  obtain ⟨g9, vE12, pE12⟩ := e12
  have q0 := hR 0 (by decide)
  have q1 := hR 1 (by decide)
  have q2 := hR 2 (by decide)
  have q3 := hR 3 (by decide)
  have q4 := hR 4 (by decide)
  have q5 := hR 5 (by decide)
  have q6 := hR 6 (by decide)
  have q7 := hR 7 (by decide)
  have q8 := hR 8 (by decide)
  have q9 := hR 9 (by decide)
  have q10 := hR 10 (by decide)
  have q11 := hR 11 (by decide)
  refine zcy (zcc [20, 19, 18, 17, 11, 10, 9, 8, 7, 6, 3, 2, 1, 0] _ (sk 24 (congrArg some e0.1) (sk 36 (congrArg some vE12) (zag _))) rfl) (by simp only [pE12, vE12, q0.2, q1.2, q2.2, q3.2, q4.2, q5.2, q6.2, q7.2, q8.2, q9.2, q10.2, q11.2, fS] <;> rfl) ?_
  simp only [List.drop_succ_cons, List.drop_zero]
  refine zck (i := 2) (z := .int .i64 0) (bytes := 8) rfl rfl rfl rfl Try.underlying26 (by kernel_rfl) rfl rfl rfl rfl (zao 0 rfl) (zbv _) (by first | omega | (simp; done) | (simp; omega)) (zca zs ([nxN n st inp k])) (zby zs ([nxN n st inp k])) (fun _ => rfl) ?_
  intro v10
  refine enQ 1 rfl (zcj (zar (hvQ rfl (vaQ rfl rfl rfl) (enQ 1 rfl ?_))))
  exact zbh (k + 1) (zs ++ ([nxN n st inp k])) v10 ⟨by omega, by rw [hz]; exact nxL_step n st inp k⟩ (by omega) (saQ rfl) (slQ [2, 0, 0] rfl)
 refine ntQ (fcQ rfl ?_)
 refine zbb (zda ?_)
 refine zad (zas (zab (reQ 2 rfl (hvQ rfl (fdQ 3 rfl rfl rfl) (hvQ rfl (zae rfl rfl rfl (zac 2 rfl rfl)) ?_)))))
 refine zee rfl (zaj rfl rfl (fun w hm => zat (packLits_ans (valsL n st inp) n.os _ _ w ((zao 1 rfl) w hm) (hr.ou.below hm.bel) (by omega) (by omega) (fun q h9 => by have h8 := ltos_at hn.ou h9; omega) hv01))) (zbf 2 rfl ?_)
 exact zav (hq_retM (rs := [.tmp 6, .tmp 7]) (vs := [zv, .int .i64 (pk (atB (valsL n st inp) n.os) n.os.length)]) (post := [rowE 3 1 zv zs.length (zs.map (Value.int .i64))]) rfl ⟨rfl, rfl, trivial⟩ rfl (slQ [0] rfl) ⟨_, _, rfl, by rw [hz, show k = n.ss.length by omega]⟩)
theorem NetStep_ret (n : Nt) (st : List Int) (v : Value) (inp : Int) (w : World) (hr : RdsNt w n) (hn : NtOk n) (hst : RdsW w v 1 st.length (st.map (Value.int .i64))) (hso : StOk n st) :
   Calls Try.prog 11 #[.agg #[.int .i64 n.ins, n.sv, n.av, n.ov], v, .int .i64 inp] w (Ret w (fun u_ p_ => ∃ (nv : Value) (x9 : Int), u_ = .tuple #[nv, .int .i64 x9] ∧ p_ = [rowE 3 1 nv (nxL n st inp n.ss.length).length ((nxL n st inp n.ss.length).map (Value.int .i64))])) := by
 have hi0 := hn.i0
 have hi1 := hn.i1
 have hs1 := hn.s1
 have ha1 := hn.a1
 have ho1 := hn.o1
 have hcnt : n.cnt = 1 + n.ins + n.ss.length + n.gs.length := rfl
 have hfst : n.fst = 1 + n.ins + n.ss.length := rfl
 have hsl := hso.len
 refine zba (N := 18) (args := [.agg #[.int .i64 n.ins, n.sv, n.av, n.ov], v, .int .i64 inp]) Try.func11 rfl rfl (srQ ?_)
 refine zea rfl (zcg rfl rfl) ?_
 intro b1
 refine zbf 2 rfl (ssrQ (hvQ rfl (zaz (cs := [.int .i64 n.ins, n.sv, n.av, n.ov]) rfl rfl rfl rfl rfl (zax 0 rfl 0 rfl)) (zai 1 rfl ?_)))
 refine zee rfl (zaj rfl rfl (fun w hm => zat (implStateOk_yes n st _ w (hr.below hm.bel) hn (hst.below hm.bel) hso))) (zbf 1 rfl (zak rfl (zch (srQ (hvQ rfl (zaz (cs := [.int .i64 n.ins, n.sv, n.av, n.ov]) rfl rfl rfl rfl rfl (zax 0 rfl 0 rfl)) (zai 2 rfl ?_))))))
 refine hl_q rfl rfl rfl (zaj rfl rfl (fun w hm => netStep_ret n st _ inp w (hr.below hm.bel) hn (hst.below hm.bel) hso)) ?_
 intro v2 p3 hR4
 obtain ⟨nvhR4, xohR4, rfl, rfl⟩ := hR4
 refine zbf 4 rfl ?_
 exact zav (hq_retM (rs := [.tmp 6, .tmp 7]) (vs := [nvhR4, .int .i64 xohR4]) (post := [rowE 3 1 nvhR4 ((nxL n st inp n.ss.length).length) ((nxL n st inp n.ss.length).map (Value.int .i64))]) rfl ⟨rfl, rfl, trivial⟩ rfl (slQ [0] rfl) ⟨_, _, rfl, rfl⟩)
theorem netStart_ret (n : Nt) (w : World) (hr : RdsNt w n) (hn : NtOk n) :
   Calls Try.prog 26 #[.agg #[.int .i64 n.ins, n.sv, n.av, n.ov]] w (Ret w (fun v' post => post = [rowE 3 1 v' ((n.ss.map Sq.it)).length (((n.ss.map Sq.it)).map (Value.int .i64))])) := by
 have hi0 := hn.i0
 have hi1 := hn.i1
 have hs1 := hn.s1
 have ha1 := hn.a1
 have ho1 := hn.o1
 have hcnt : n.cnt = 1 + n.ins + n.ss.length + n.gs.length := rfl
 have hfst : n.fst = 1 + n.ins + n.ss.length := rfl
 refine zba (N := 20) (args := [.agg #[.int .i64 n.ins, n.sv, n.av, n.ov]]) Try.func26 rfl rfl (srQ ?_)
 refine zea rfl (zcg rfl rfl) ?_
 intro b1
 refine zbf 1 rfl (srQ ?_)
 refine zep 3 1 (zbf 1 rfl (ssrQ (hvQ rfl (fdQ 1 rfl rfl rfl) (hvQ rfl (zae rfl rfl rfl (zac 1 rfl rfl)) (hvQ rfl (lnQ rfl rfl rfl (zaa hr.sq)) (zbf 1 rfl ?_))))))
 refine zau ?_
 refine lkQ3 (α := Nat) (β := List Int) (γ := Value) [0, 1, 2, 7, 8] rfl (fun k zs zv => [rowE 3 1 zv zs.length (zs.map (Value.int .i64)), boxE b1 #[.int .i64 n.ins, n.sv, n.av, n.ov] 28]) (fun k zs zv => [(3, zv), (9, .int .i64 (k : Int))]) (fun k zs zv => k ≤ n.ss.length ∧ zs = (n.ss.take k).map Sq.it) (fun k zs zv => n.ss.length - k) 0 [] _ ⟨Nat.zero_le _, rfl⟩ (saQ rfl) (pfQ rfl) ?_
 intro k zs zv hi3
 obtain ⟨hk, hz⟩ := hi3
 have hzl : zs.length = k := by rw [hz, List.length_map, List.length_take]; omega
 refine srQ ?_
 refine zbk rfl rfl rfl rfl rfl rfl (fun h4 => ?_) (fun h4 => ?_)
 ·
  refine ntQ (tcQ rfl (zch (sbQ (srQ (hvQ rfl (riQ 3 rfl rfl rfl rfl (zaa hr.sq)) ?_)))))
  refine hvQ rfl (zct (us := [.int .i64 ((n.ss.getD k sq0).kd), .int .i64 ((n.ss.getD k sq0).it), (n.ss.getD k sq0).iv]) rfl rfl rfl rfl (zaa hr.sq) (by omega) rfl (zdx sqC 3 (fun _ => rfl) n.ss sq0 (show k < _ by omega) rfl)) (zea rfl (zcf (z := .agg #[.int .i64 0, .int .i64 0, .slice none 0 0]) rfl rfl) ?_)
  intro b5
  refine zcp (cs' := #[.int .i64 ((n.ss.getD k sq0).kd), .int .i64 ((n.ss.getD k sq0).it), (n.ss.getD k sq0).iv]) (i := 0) (off := 0) (us := [.int .i64 ((n.ss.getD k sq0).kd), .int .i64 ((n.ss.getD k sq0).it), (n.ss.getD k sq0).iv]) rfl rfl rfl rfl rfl rfl rfl (zap rfl (zap rfl (zap (hr.at (k := k) (by omega)).one zce))) rfl rfl rfl (ntQ (reQ 1 rfl (hvQ rfl (fdQ 1 rfl rfl rfl) (hvQ rfl (zae rfl rfl rfl (zac 0 rfl rfl)) ?_))))
  refine hrwQ rfl (zay (z := .int .i64 0) (s := 1) (cs := ([(n.ss.getD k sq0).it].map (Value.int .i64))) rfl Try.underlying26 rfl (by decide) rfl (by kernel_rfl) rfl) ?_
  intro g6
  refine zck (i := 2) (z := .int .i64 0) (bytes := 8) rfl rfl rfl rfl Try.underlying26 (by kernel_rfl) rfl rfl rfl rfl (zao 0 rfl) (zbv _) (by first | omega | (simp; done) | (simp; omega)) (zca zs ([(n.ss.getD k sq0).it])) (zby zs ([(n.ss.getD k sq0).it])) (fun _ => rfl) ?_
  intro v7
  refine enQ 1 rfl (zcj (zar (hvQ rfl (vaQ rfl rfl rfl) (enQ 1 rfl ?_))))
  exact zbh (k + 1) (zs ++ ([(n.ss.getD k sq0).it])) v7 ⟨by omega, by rw [hz, take_snocG sq0 (show k < n.ss.length by omega), List.map_append]; rfl⟩ (by omega) (saQ rfl) (slQ [2, 0] rfl)
 refine ntQ (fcQ rfl ?_)
 refine zbb (zda ?_)
 refine zad (zas (zbe 2 rfl ?_))
 exact zav (zcw (post := [rowE 3 1 zv zs.length (zs.map (Value.int .i64))]) rfl rfl (slQ [0] rfl) (by rw [hz, show k = n.ss.length by omega, List.take_length]))
theorem implNetStart_ret (n : Nt) (w : World) (hr : RdsNt w n) (hn : NtOk n) :
   Calls Try.prog 9 #[.agg #[.int .i64 n.ins, n.sv, n.av, n.ov]] w (Ret w (fun v' post => post = [rowE 3 1 v' ((n.ss.map Sq.it)).length (((n.ss.map Sq.it)).map (Value.int .i64))])) := by
 have hi0 := hn.i0
 have hi1 := hn.i1
 have hs1 := hn.s1
 have ha1 := hn.a1
 have ho1 := hn.o1
 have hcnt : n.cnt = 1 + n.ins + n.ss.length + n.gs.length := rfl
 have hfst : n.fst = 1 + n.ins + n.ss.length := rfl
 refine zba (N := 8) (args := [.agg #[.int .i64 n.ins, n.sv, n.av, n.ov]]) Try.func9 rfl rfl (srQ ?_)
 refine zea rfl (zcg rfl rfl) ?_
 intro b1
 refine zbf 1 rfl (ssrQ (hvQ rfl (zaz (cs := [.int .i64 n.ins, n.sv, n.av, n.ov]) rfl rfl rfl rfl rfl (zax 0 rfl 0 rfl)) ?_))
 refine zee rfl (zaj rfl rfl (fun w hm => zat (zdw n w (hr.below hm.bel) hn))) (zbf 1 rfl (zak rfl (zch (srQ (hvQ rfl (zaz (cs := [.int .i64 n.ins, n.sv, n.av, n.ov]) rfl rfl rfl rfl rfl (zax 0 rfl 0 rfl)) ?_)))))
 refine hl_q rfl rfl rfl (zaj rfl rfl (fun w hm => netStart_ret n w (hr.below hm.bel) hn)) ?_
 intro v2 p3 hR4
 subst hR4
 refine zbf 1 rfl ?_
 exact zav (zcw (post := [rowE 3 1 v2 ((n.ss.map Sq.it).length) ((n.ss.map Sq.it).map (Value.int .i64))]) rfl rfl (slQ [0] rfl) rfl)
theorem nt_gsC {n : Nt} {gs : List An} (hn : NtOk n) (h : AnsOk n.fst gs) (hl : gs.length = n.gs.length) : NtOk (Nt.mk n.ins n.sv n.av n.ov n.ss gs n.os) := by
  have e : (Nt.mk n.ins n.sv n.av n.ov n.ss gs n.os).cnt = n.cnt := by show 1 + n.ins + (n.ss.length : Int) + gs.length = 1 + n.ins + n.ss.length + n.gs.length; rw [hl]
  have hx := hn.xs
  have ho := hn.ou
  rw [← e] at hx ho
  exact ⟨hn.i0, hn.i1, hn.s1, by show gs.length ≤ 300; rw [hl]; exact hn.a1, hn.o1, hn.sq, hx, h, ho⟩
theorem nt_ssC {n : Nt} {ss : List Sq} (hn : NtOk n) (h : SqsOk n.cnt ss) (hl : ss.length = n.ss.length) : NtOk (Nt.mk n.ins n.sv n.av n.ov ss n.gs n.os) := by
  have e : (Nt.mk n.ins n.sv n.av n.ov ss n.gs n.os).cnt = n.cnt := by show 1 + n.ins + (ss.length : Int) + n.gs.length = 1 + n.ins + n.ss.length + n.gs.length; rw [hl]
  have e2 : (Nt.mk n.ins n.sv n.av n.ov ss n.gs n.os).fst = n.fst := by show 1 + n.ins + (ss.length : Int) = 1 + n.ins + n.ss.length; rw [hl]
  have ha := hn.an
  have ho := hn.ou
  rw [← e] at h ho
  rw [← e2] at ha
  exact ⟨hn.i0, hn.i1, by show ss.length ≤ 12; rw [hl]; exact hn.s1, hn.a1, hn.o1, fun s hs => (h s hs).1, fun s hs => (h s hs).2, ha, ho⟩
theorem getD_setA {D : List An} {a s : Nat} {b : An} (ha : a < D.length) : (D.set a b).getD s an0 = if s = a then b else D.getD s an0 := by
  rw [List.getD_eq_getElem?_getD, List.getElem?_set, List.getD_eq_getElem?_getD]
  by_cases e : a = s
  · rw [if_pos e, if_pos e.symm, if_pos ha]; rfl
  · rw [if_neg e, if_neg (fun h => e h.symm)]
theorem ans_set {f : Int} {gs : List An} {k : Nat} {x y : Int} (hk : k < gs.length) (h : AnsOk f gs) (hx : LtOk x (f + k)) (hy : LtOk y (f + k)) : AnsOk f (gs.set k (An.mk x y)) := fun q hq => by
  rw [List.length_set] at hq
  rw [getD_setA hk]
  by_cases e : q = k
  · rw [if_pos e, e]; exact ⟨hx, hy⟩
  · rw [if_neg e]; exact h q hq
theorem rdsW_slT {w : World} {v : Value} {xs : List Int} (h : RdsW w v 1 xs.length (xs.map (Value.int .i64))) {k : Nat} (hk : k ≤ xs.length) : RdsW w (slV v 0 k 1) 1 (xs.take k).length ((xs.take k).map (Value.int .i64)) := by
  have := rdW_sl h (Nat.zero_le k) hk
  simp only [Nat.sub_zero, Nat.zero_mul, List.drop_zero, Nat.mul_one] at this
  rw [List.map_take, List.length_take, Nat.min_eq_left hk]; exact this
theorem hold_atC {w : World} {ps : List HP} {p : HP} (h : (bigE ps).holds w) {j : Nat} (hj : ps[j]? = some p) : p.holds w := (h.1 p (zbs hj)).2
theorem sqs_set {m : Int} {ss : List Sq} {s : Sq} {k : Nat} (h : SqsOk m ss) (h1 : SqOk s) (h2 : ∀ x ∈ s.xs, LtOk x m) : SqsOk m (ss.set k s) := fun r hr => by
  rcases List.mem_or_eq_of_mem_set hr with hr | hr
  · exact h r hr
  · subst hr; exact ⟨h1, h2⟩
theorem l15Net_mut (g : Nat) (a : Option Addr) (len cap : Nat) (z : List Int) (w0 : World) (l : List HP) (w : World) (hm0 : Mem w0 (curE g a len cap :: l) w) (hb : BRow .u8 w0 a len cap z) :
   Calls Try.prog 30 #[.pointer (some ⟨g, 0, none⟩)] w (fun e_ w_ => ∃ v_ p_, e_ = .returned v_ ∧ (fun u_ p_ => ∃ n : Nt, u_ = n.agg ∧ p_ = bigE [curE g a len cap, ntE n] ∧ (n.sv.oneCell' = true ∧ n.av.oneCell' = true ∧ n.ov.oneCell' = true) ∧ NtOk n) v_ p_ ∧ Mem w0 (p_ :: l) w_) := by
 refine zdq (N := 49) (args := [.pointer (some ⟨g, 0, none⟩)]) Try.func30 rfl rfl hm0 (srQ ?_)
 refine zea rfl (zcf (z := .agg #[.int .i64 0, .slice none 0 0, .slice none 0 0, .slice none 0 0]) rfl rfl) ?_
 intro b1
 refine ntQ (zab (reQ 1 rfl ?_))
 refine zbp (R := (fun u_ p_ => ∃ n : Nt, u_ = n.agg ∧ p_ = bigE [curE g a len cap, ntE n] ∧ (n.sv.oneCell' = true ∧ n.av.oneCell' = true ∧ n.ov.oneCell' = true) ∧ NtOk n ∧ n.ins ≤ 2 ∧ (n.ss.length : Int) ≤ 4 ∧ (n.gs.length : Int) ≤ 10)) 1 rfl rfl rfl rfl rfl (fun l' w hm => l08Sized_mut g a len cap z 2 4 10 _ _ _ hm hb (by decide) (by decide) (by decide)) ?_
 intro v2 p3 hR4
 obtain ⟨n, rfl, rfl, ⟨o1n, o2n, o3n⟩, hn, hnq1, hnq2, hnq3⟩ := hR4
 refine zcd (l' := (boxE b1 #[.int .i64 0, .slice none 0 0, .slice none 0 0, .slice none 0 0] 28 :: bigE [curE g a len cap, ntE n] :: l)) rfl ?_
 refine zea rfl (zcf (z := .agg #[.int .i64 0, .slice none 0 0, .slice none 0 0, .slice none 0 0]) rfl rfl) ?_
 intro b5
 refine zcp (cs' := #[.int .i64 n.ins, n.sv, n.av, n.ov]) (i := 0) (off := 0) (us := [.int .i64 n.ins, n.sv, n.av, n.ov]) rfl rfl rfl rfl rfl rfl rfl (zap rfl (zap o1n (zap o2n (zap o3n zce)))) rfl rfl rfl (ntQ (ssrQ ?_))
 refine zex 3 [1, 0, 2] rfl rfl (by decide) ?_
 refine zek (curE g a len cap :: ntE n :: boxE b5 #[.int .i64 n.ins, n.sv, n.av, n.ov] 28 :: boxE b1 #[.int .i64 0, .slice none 0 0, .slice none 0 0, .slice none 0 0] 28 :: l) zcv ?_
 refine zex 4 [3, 2, 0, 1] rfl rfl (by decide) ?_
 refine zek (sqsE n.sv n.ss :: rowE 66 2 n.av n.gs.length (n.gs.flatMap anC) :: rowE 3 1 n.ov n.os.length (n.os.map (Value.int .i64)) :: curE g a len cap :: boxE b5 #[.int .i64 n.ins, n.sv, n.av, n.ov] 28 :: boxE b1 #[.int .i64 0, .slice none 0 0, .slice none 0 0, .slice none 0 0] 28 :: l) zcv ?_
 have hi0 := hn.i0
 have hi1 := hn.i1
 have hs1 := hn.s1
 have ha1 := hn.a1
 have ho1 := hn.o1
 have hfst : n.fst = 1 + n.ins + n.ss.length := rfl
 refine zbf 1 rfl (zau ?_)
 refine lkQ2 (α := Nat) (β := List An) [0, 2, 3] rfl (fun k gs => (sqsE n.sv n.ss :: rowE 66 2 n.av gs.length (gs.flatMap anC) :: rowE 3 1 n.ov n.os.length (n.os.map (Value.int .i64)) :: curE g a len cap :: boxE b5 #[.int .i64 n.ins, n.sv, n.av, n.ov] 28 :: boxE b1 #[.int .i64 0, .slice none 0 0, .slice none 0 0, .slice none 0 0] 28 :: l)) (fun k gs => [(4, .int .i64 (k : Int))]) (fun k gs => k ≤ gs.length ∧ gs.length = n.gs.length ∧ AnsOk n.fst gs) (fun k gs => n.gs.length - k) 0 n.gs ⟨Nat.zero_le _, rfl, hn.an⟩ (saQ rfl) (.refl _) ?_
 intro k gs hi6
 obtain ⟨hk, hgl, hgo⟩ := hi6
 refine zab (zab (reQ 1 rfl (hvQ rfl (fdQ 2 rfl rfl rfl) (hvQ rfl (zae rfl rfl rfl (zac 4 rfl rfl)) (hvQ rfl (lnQ rfl rfl rfl (zao 1 rfl)) ?_)))))
 refine zbk rfl rfl rfl rfl rfl rfl (fun h7 => ?_) (fun h7 => ?_)
 ·
  refine zai 1 rfl (hvQ rfl (fdQ 1 rfl rfl rfl) (hvQ rfl (zae rfl rfl rfl (zac 4 rfl rfl)) ?_))
  refine hvQ rfl (lnQ rfl rfl rfl (fun w hm => zcm (hold_atC (hm.holds _ (zbs (i := 0) rfl)) (j := 1) rfl))) (hl_gtr rfl rfl rfl rfl rfl rfl (fun h8 => ?_) (fun h8 => ?_))
  ·
   refine zbf 1 rfl (zan rfl (zch (sbQ (zab (reQ 1 rfl ?_)))))
   refine zbp (R := (fun u_ p_ => (∃ b : Bool, u_ = .bool b) ∧ p_ = curE g a len cap)) 3 rfl rfl rfl rfl rfl (fun l' w hm => zef hm hb (2) (by omega) (by omega)) ?_
   intro v9 p10 hR11
   obtain ⟨⟨xhR11, rfl⟩, rfl⟩ := hR11
   refine zcd (l' := (sqsE n.sv n.ss :: rowE 66 2 n.av gs.length (gs.flatMap anC) :: rowE 3 1 n.ov n.os.length (n.os.map (Value.int .i64)) :: curE g a len cap :: boxE b5 #[.int .i64 n.ins, n.sv, n.av, n.ov] 28 :: boxE b1 #[.int .i64 0, .slice none 0 0, .slice none 0 0, .slice none 0 0] 28 :: l)) rfl ?_
   refine zbo (fun h12 => ?_) (fun h12 => ?_)
   ·
    refine ntQ (zan rfl (srQ (hvQ rfl (fdQ 0 rfl rfl rfl) (hvQ rfl (zae rfl rfl rfl (zac 4 rfl rfl)) (hvQ rfl (vaQ rfl rfl rfl) (hvQ rfl (rv_mul rfl rfl rfl (by constructor <;> omega)) (zbf 1 rfl ?_)))))))
    refine hc_pick 6 [5, 4, 2, 1, 0, 3] rfl rfl (by decide) ?_
    refine hc_draw2 (l := (sqsE n.sv n.ss :: rowE 66 2 n.av gs.length (gs.flatMap anC) :: rowE 3 1 n.ov n.os.length (n.os.map (Value.int .i64)) :: boxE b5 #[.int .i64 n.ins, n.sv, n.av, n.ov] 28 :: boxE b1 #[.int .i64 0, .slice none 0 0, .slice none 0 0, .slice none 0 0] 28 :: l)) rfl 21 [0, 1, 2, 3, 4, 5, 6, 7, 8, 9, 10, 11, 12, 13, 14, 15, 16, 17, 18, 19, 20] (List.take 21 _) (List.drop 21 _) [[], [0], [], [], [], [], [5], [6], [7], [4, 8], [3, 9], [], [], [], [13], [14], [15], [9, 12, 16], [11, 17], [9, 10, 17, 18], [1, 2]] [27, 28, 29, 30, 31, 32, 33, 34, 35, 36, 37, 38, 39, 40, 41, 42, 43, 44, 45, 46, 47] (fun i_ vs_ v_ p_ => match i_ with | 0 => v_ = .pointer (some ⟨b5, 0 + 2, none⟩) ∧ p_ = [] | 1 => v_ = n.av ∧ p_ = [] | 2 => v_ = .int .i64 (k : Int) ∧ p_ = [] | 3 => v_ = .int .i64 (2 * (1 + n.ins)) ∧ p_ = [] | 4 => v_ = .pointer (some ⟨g, 0, none⟩) ∧ p_ = [] | 5 => v_ = .pointer (some ⟨b5, 0 + 1, none⟩) ∧ p_ = [] | 6 => v_ = n.sv ∧ p_ = [] | 7 => v_ = .int .i64 (n.ss.length : Int) ∧ p_ = [] | 8 => v_ = .int .i64 (2 * (n.ss.length : Int)) ∧ p_ = [] | 9 => (∃ pm_, p_ = [pm_] ∧ (fun u_ p_ => (∃ x_ : Int, u_ = .int .i64 x_ ∧ 0 ≤ x_ ∧ x_ < 2 * (n.ss.length : Int)) ∧ p_ = curE g a len cap) v_ pm_) | 10 => v_ = .int .i64 ((2 * (1 + n.ins)) + (intOf_o (List.getD vs_ 1 undef))) ∧ p_ = [] | 11 => v_ = .int .i64 (2 * (1 + n.ins)) ∧ p_ = [] | 12 => v_ = .pointer (some ⟨g, 0, none⟩) ∧ p_ = [] | 13 => v_ = .pointer (some ⟨b5, 0 + 1, none⟩) ∧ p_ = [] | 14 => v_ = n.sv ∧ p_ = [] | 15 => v_ = .int .i64 (n.ss.length : Int) ∧ p_ = [] | 16 => v_ = .int .i64 (2 * (n.ss.length : Int)) ∧ p_ = [] | 17 => (∃ pm_, p_ = [pm_] ∧ (fun u_ p_ => (∃ x_ : Int, u_ = .int .i64 x_ ∧ 0 ≤ x_ ∧ x_ < 2 * (n.ss.length : Int)) ∧ p_ = curE g a len cap) v_ pm_) | 18 => v_ = .int .i64 ((2 * (1 + n.ins)) + (intOf_o (List.getD vs_ 1 undef))) ∧ p_ = [] | 19 => v_ = .agg #[.int .i64 ((2 * (1 + n.ins)) + (intOf_o (List.getD vs_ 0 undef))), .int .i64 ((2 * (1 + n.ins)) + (intOf_o (List.getD vs_ 2 undef)))] ∧ p_ = [] | 20 => v_ = elP n.av (((k : Int)).toNat * 2) ∧ p_ = [] | _ => True) [[], [0], [], [], [], [], [5], [6], [7], [4, 8], [3], [], [], [], [13], [14], [15], [12, 16], [11, 17], [10, 17, 18], [1, 2]] [none, none, none, none, none, none, none, none, none, some 22, none, none, none, none, none, none, none, some 9, none, none, none] [curE g a len cap] [0, 1, 2, 3, 4, 5, 6, 7, 8, 10, 11, 12, 13, 14, 15, 16, 17, 18, 19, 20] 22 (List.take_append_drop 21 _).symm (by kernel_rfl) (by kernel_rfl) (by kernel_rfl) rfl rfl ?_ ?_
    ·
     refine ⟨?_, ?_, ?_, ?_, ?_, ?_, ?_, ?_, ?_, ?_, ?_, ?_, ?_, ?_, ?_, ?_, ?_, ?_, ?_, ?_, ?_, trivial⟩
     ·
      intro vf pf hmu hR
      refine dqQ [] [] rfl (zbm (zaq [3] rfl) ?_)
      exact zbq (fdQ 2 rfl rfl rfl)
     ·
      intro vf pf hmu hR
      have e0 := hR 0 (by decide)
      refine dqQ [0] [0] rfl (zbu (sk 27 (congrArg some e0.1) (zag _)) (List.sublist_append_right _ _) ?_)
      exact zbq (zae rfl rfl rfl (zac 3 rfl rfl))
     ·
      intro vf pf hmu hR
      refine dqQ [] [] rfl (zbm (zaq [4] rfl) ?_)
      exact zbq (zaf rfl)
     ·
      intro vf pf hmu hR
      refine dqQ [] [] rfl (zbm (zaq [5] rfl) ?_)
      exact zbq (zaf rfl)
     ·
      intro vf pf hmu hR
      refine dqQ [] [] rfl (zbm (zaq [0] rfl) ?_)
      exact zbq (zaf rfl)
     ·
      intro vf pf hmu hR
      refine dqQ [] [] rfl (zbm (zaq [3] rfl) ?_)
      exact zbq (fdQ 1 rfl rfl rfl)
     ·
      intro vf pf hmu hR
      have e5 := hR 5 (by decide)
      refine dqQ [5] [5] rfl (zbu (sk 32 (congrArg some e5.1) (zag _)) (List.sublist_append_right _ _) ?_)
      exact zbq (zae rfl rfl rfl (zac 3 rfl rfl))
     ·
      intro vf pf hmu hR
      have e6 := hR 6 (by decide)
      refine dqQ [6] [6] rfl (zbu (sk 33 (congrArg some e6.1) (zag _)) (List.sublist_append_right _ _) ?_)
      exact zbq (lnQ rfl rfl rfl (fun w hm => zcm (hold_atC (hm.holds _ (zbs (i := 0) rfl)) (j := 1) rfl)))
     ·
      intro vf pf hmu hR
      have e7 := hR 7 (by decide)
      refine dqQ [7] [7] rfl (zbm (sk 34 (congrArg some e7.1) (zag _)) ?_)
      exact zbq (rv_mul rfl rfl rfl (by constructor <;> omega))
     ·
      intro vf pf hmu hR
      have e4 := hR 4 (by decide)
      have e8 := hR 8 (by decide)
      refine Or.inl ⟨rfl, ?_⟩
      show RunM _ _ _ (pf 22) (([4, 8] : List Nat).flatMap pf ++ _) (envOf _ vf [4, 8] ++ _) _ _
      rw [hmu]
      exact zcu (sk 31 (congrArg some e4.1) (sk 35 (congrArg some e8.1) (zag _))) (by simp only [e4.2, e8.2, fS] <;> rfl) (zdc (R := (fun u_ p_ => (∃ x_ : Int, u_ = .int .i64 x_ ∧ 0 ≤ x_ ∧ x_ < 2 * (n.ss.length : Int)) ∧ p_ = curE g a len cap)) rfl rfl (fun L w hX hm => zbn g a len cap z (2 * (n.ss.length : Int)) _ _ _ hm hb (by constructor <;> omega)))
     ·
      intro vf pf hmu hR
      have e3 := hR 3 (by decide)
      have e9 : (∃ pm_, (pf 9) = [pm_] ∧ (fun u_ p_ => (∃ x_ : Int, u_ = .int .i64 x_ ∧ 0 ≤ x_ ∧ x_ < 2 * (n.ss.length : Int)) ∧ p_ = curE g a len cap) (vf 9) pm_) := hR 9 (by decide)
      obtain ⟨p14, pE9, hR15⟩ := e9
      obtain ⟨v13, vE9⟩ : ∃ x, vf 9 = x := ⟨_, rfl⟩
      rw [vE9] at hR15
      obtain ⟨⟨xhR15, rfl, xhR150, xhR151⟩, rfl⟩ := hR15
      refine dqQ [3] [3, 9] rfl (zbm (sk 30 (congrArg some e3.1) (sk 36 (congrArg some vE9) (zag _))) ?_)
      exact zbz (zbq (vaQ rfl rfl rfl)) (fun _ _ h => ⟨h.1.trans (by show _ = (.int .i64 ((2 * (1 + n.ins)) + (intOf_o (vf 9))) : Value); first | (rw [vE9]; done) | (rw [vE9]; rfl)), h.2⟩)
     ·
      intro vf pf hmu hR
      refine dqQ [] [] rfl (zbm (zaq [5] rfl) ?_)
      exact zbq (zaf rfl)
     ·
      intro vf pf hmu hR
      refine dqQ [] [] rfl (zbm (zaq [0] rfl) ?_)
      exact zbq (zaf rfl)
     ·
      intro vf pf hmu hR
      refine dqQ [] [] rfl (zbm (zaq [3] rfl) ?_)
      exact zbq (fdQ 1 rfl rfl rfl)
     ·
      intro vf pf hmu hR
      have e13 := hR 13 (by decide)
      refine dqQ [13] [13] rfl (zbu (sk 40 (congrArg some e13.1) (zag _)) (List.sublist_append_right _ _) ?_)
      exact zbq (zae rfl rfl rfl (zac 3 rfl rfl))
     ·
      intro vf pf hmu hR
      have e14 := hR 14 (by decide)
      refine dqQ [14] [14] rfl (zbu (sk 41 (congrArg some e14.1) (zag _)) (List.sublist_append_right _ _) ?_)
      exact zbq (lnQ rfl rfl rfl (fun w hm => zcm (hold_atC (hm.holds _ (zbs (i := 0) rfl)) (j := 1) rfl)))
     ·
      intro vf pf hmu hR
      have e15 := hR 15 (by decide)
      refine dqQ [15] [15] rfl (zbm (sk 42 (congrArg some e15.1) (zag _)) ?_)
      exact zbq (rv_mul rfl rfl rfl (by constructor <;> omega))
     ·
      intro vf pf hmu hR
      have e9 : (∃ pm_, (pf 9) = [pm_] ∧ (fun u_ p_ => (∃ x_ : Int, u_ = .int .i64 x_ ∧ 0 ≤ x_ ∧ x_ < 2 * (n.ss.length : Int)) ∧ p_ = curE g a len cap) (vf 9) pm_) := hR 9 (by decide)
      obtain ⟨p14, pE9, hR15⟩ := e9
      obtain ⟨v13, vE9⟩ : ∃ x, vf 9 = x := ⟨_, rfl⟩
      rw [vE9] at hR15
      obtain ⟨⟨xhR15, rfl, xhR150, xhR151⟩, rfl⟩ := hR15
      have e12 := hR 12 (by decide)
      have e16 := hR 16 (by decide)
      refine Or.inl ⟨rfl, ?_⟩
      show RunM _ _ _ (pf 9) (([12, 16] : List Nat).flatMap pf ++ _) (envOf _ vf [9, 12, 16] ++ _) _ _
      rw [pE9]
      exact zcu (sk 39 (congrArg some e12.1) (sk 43 (congrArg some e16.1) (zag _))) (by simp only [e12.2, e16.2, fS] <;> rfl) (zdc (R := (fun u_ p_ => (∃ x_ : Int, u_ = .int .i64 x_ ∧ 0 ≤ x_ ∧ x_ < 2 * (n.ss.length : Int)) ∧ p_ = curE g a len cap)) rfl rfl (fun L w hX hm => zbn g a len cap z (2 * (n.ss.length : Int)) _ _ _ hm hb (by constructor <;> omega)))
     ·
      intro vf pf hmu hR
      have e11 := hR 11 (by decide)
      have e17 : (∃ pm_, (pf 17) = [pm_] ∧ (fun u_ p_ => (∃ x_ : Int, u_ = .int .i64 x_ ∧ 0 ≤ x_ ∧ x_ < 2 * (n.ss.length : Int)) ∧ p_ = curE g a len cap) (vf 17) pm_) := hR 17 (by decide)
      obtain ⟨p17, pE17, hR18⟩ := e17
      obtain ⟨v16, vE17⟩ : ∃ x, vf 17 = x := ⟨_, rfl⟩
      rw [vE17] at hR18
      obtain ⟨⟨xhR18, rfl, xhR180, xhR181⟩, rfl⟩ := hR18
      refine dqQ [11, 17] [11, 17] rfl (zbt (sk 38 (congrArg some e11.1) (sk 44 (congrArg some vE17) (zag _))) (by simp only [pE17, vE17, e11.2, fS] <;> rfl) ?_)
      exact zbz (zbq (vaQ rfl rfl rfl)) (fun _ _ h => ⟨h.1.trans (by show _ = (.int .i64 ((2 * (1 + n.ins)) + (intOf_o (vf 17))) : Value); first | (rw [vE17]; done) | (rw [vE17]; rfl)), h.2⟩)
     ·
      intro vf pf hmu hR
      have e9 : (∃ pm_, (pf 9) = [pm_] ∧ (fun u_ p_ => (∃ x_ : Int, u_ = .int .i64 x_ ∧ 0 ≤ x_ ∧ x_ < 2 * (n.ss.length : Int)) ∧ p_ = curE g a len cap) (vf 9) pm_) := hR 9 (by decide)
      obtain ⟨p14, pE9, hR15⟩ := e9
      obtain ⟨v13, vE9⟩ : ∃ x, vf 9 = x := ⟨_, rfl⟩
      rw [vE9] at hR15
      obtain ⟨⟨xhR15, rfl, xhR150, xhR151⟩, rfl⟩ := hR15
      have e10 : (vf 10) = .int .i64 ((2 * (1 + n.ins)) + (intOf_o (vf 9))) ∧ (pf 10) = [] := hR 10 (by decide)
      rw [vE9] at e10
      have e17 : (∃ pm_, (pf 17) = [pm_] ∧ (fun u_ p_ => (∃ x_ : Int, u_ = .int .i64 x_ ∧ 0 ≤ x_ ∧ x_ < 2 * (n.ss.length : Int)) ∧ p_ = curE g a len cap) (vf 17) pm_) := hR 17 (by decide)
      obtain ⟨p17, pE17, hR18⟩ := e17
      obtain ⟨v16, vE17⟩ : ∃ x, vf 17 = x := ⟨_, rfl⟩
      rw [vE17] at hR18
      obtain ⟨⟨xhR18, rfl, xhR180, xhR181⟩, rfl⟩ := hR18
      have e18 : (vf 18) = .int .i64 ((2 * (1 + n.ins)) + (intOf_o (vf 17))) ∧ (pf 18) = [] := hR 18 (by decide)
      rw [vE17] at e18
      refine dqQ [10, 17, 18] [9, 10, 17, 18] rfl (zbt (sk 37 (congrArg some e10.1) (sk 45 (congrArg some e18.1) (zag _))) (by simp only [pE17, vE17, e10.2, e18.2, fS] <;> rfl) ?_)
      exact zbz (zbq (rv_build (cs := #[.int .i64 ((2 * (1 + n.ins)) + xhR15), .int .i64 ((2 * (1 + n.ins)) + xhR18)]) rfl rfl rfl)) (fun _ _ h => ⟨h.1.trans (by show _ = (.agg #[.int .i64 ((2 * (1 + n.ins)) + (intOf_o (vf 9))), .int .i64 ((2 * (1 + n.ins)) + (intOf_o (vf 17)))] : Value); first | (rw [vE9, vE17]; done) | (rw [vE9, vE17]; rfl)), h.2⟩)
     intro vf pf hmu hR
     have e1 := hR 1 (by decide)
     have e2 := hR 2 (by decide)
     refine dqQ [1, 2] [1, 2] rfl (zbu (sk 28 (congrArg some e1.1) (sk 29 (congrArg some e2.1) (zag _))) (List.sublist_append_right _ _) ?_)
     exact zbq (riQ 2 rfl rfl rfl rfl (zao 1 rfl))
    intro vf pf hmu hR
    have e9 : (∃ pm_, (pf 9) = [pm_] ∧ (fun u_ p_ => (∃ x_ : Int, u_ = .int .i64 x_ ∧ 0 ≤ x_ ∧ x_ < 2 * (n.ss.length : Int)) ∧ p_ = curE g a len cap) (vf 9) pm_) := hR 9 (by decide)
    obtain ⟨p14, pE9, hR15⟩ := e9
    obtain ⟨v13, vE9⟩ : ∃ x, vf 9 = x := ⟨_, rfl⟩
    rw [vE9] at hR15
    obtain ⟨⟨xhR15, rfl, xhR150, xhR151⟩, rfl⟩ := hR15
    have e17 : (∃ pm_, (pf 17) = [pm_] ∧ (fun u_ p_ => (∃ x_ : Int, u_ = .int .i64 x_ ∧ 0 ≤ x_ ∧ x_ < 2 * (n.ss.length : Int)) ∧ p_ = curE g a len cap) (vf 17) pm_) := hR 17 (by decide)
    obtain ⟨p17, pE17, hR18⟩ := e17
    obtain ⟨v16, vE17⟩ : ∃ x, vf 17 = x := ⟨_, rfl⟩
    rw [vE17] at hR18
    obtain ⟨⟨xhR18, rfl, xhR180, xhR181⟩, rfl⟩ := hR18
    have e19 : (vf 19) = .agg #[.int .i64 ((2 * (1 + n.ins)) + (intOf_o (vf 9))), .int .i64 ((2 * (1 + n.ins)) + (intOf_o (vf 17)))] ∧ (pf 19) = [] := hR 19 (by decide)
    rw [vE9, vE17] at e19
    have e20 := hR 20 (by decide)
    have q0 := hR 0 (by decide)
    have q1 := hR 1 (by decide)
    have q2 := hR 2 (by decide)
    have q3 := hR 3 (by decide)
    have q4 := hR 4 (by decide)
    have q5 := hR 5 (by decide)
    have q6 := hR 6 (by decide)
    have q7 := hR 7 (by decide)
    have q8 := hR 8 (by decide)
    have q10 := hR 10 (by decide)
    have q11 := hR 11 (by decide)
    have q12 := hR 12 (by decide)
    have q13 := hR 13 (by decide)
    have q14 := hR 14 (by decide)
    have q15 := hR 15 (by decide)
    have q16 := hR 16 (by decide)
    have q18 := hR 18 (by decide)
    have q19 := hR 19 (by decide)
    have q20 := hR 20 (by decide)
    refine zcy (zcc [22, 18, 5, 4, 3, 2, 0] _ (sk 46 (congrArg some e19.1) (sk 47 (congrArg some e20.1) (zag _))) rfl) (by simp only [pE17, vE17, q0.2, q1.2, q2.2, q3.2, q4.2, q5.2, q6.2, q7.2, q8.2, q10.2, q11.2, q12.2, q13.2, q14.2, q15.2, q16.2, q18.2, q19.2, q20.2, fS] <;> rfl) ?_
    simp only [List.drop_succ_cons, List.drop_zero]
    refine hl_storeElN (i := 2) (us := [.int .i64 ((2 * (1 + n.ins)) + xhR15), .int .i64 ((2 * (1 + n.ins)) + xhR18)]) (n' := (gs.set k (An.mk ((2 * (1 + n.ins)) + xhR15) ((2 * (1 + n.ins)) + xhR18))).length) (xs' := ((gs.set k (An.mk ((2 * (1 + n.ins)) + xhR15) ((2 * (1 + n.ins)) + xhR18))).flatMap anC)) (l' := (curE g a len cap :: sqsE n.sv n.ss :: rowE 66 2 n.av ((gs.set k (An.mk ((2 * (1 + n.ins)) + xhR15) ((2 * (1 + n.ins)) + xhR18))).length) ((gs.set k (An.mk ((2 * (1 + n.ins)) + xhR15) ((2 * (1 + n.ins)) + xhR18))).flatMap anC) :: rowE 3 1 n.ov n.os.length (n.os.map (Value.int .i64)) :: boxE b5 #[.int .i64 n.ins, n.sv, n.av, n.ov] 28 :: boxE b1 #[.int .i64 0, .slice none 0 0, .slice none 0 0, .slice none 0 0] 28 :: l)) rfl rfl rfl rfl rfl rfl (zap rfl (zap rfl zce)) rfl (by first | omega | (simp only [List.length_set]; omega)) (by simp only [List.length_cons, List.length_nil]; first | omega | (simp only [List.length_set]; omega)) List.length_set.symm (flat_put anC 2 (fun _ => rfl) _ (An.mk ((2 * (1 + n.ins)) + xhR15) ((2 * (1 + n.ins)) + xhR18)) (by first | omega | (simp only [List.length_set]; omega))) rfl ?_
    refine zbw (zcj (reQ 1 rfl (hvQ rfl (vaQ rfl rfl rfl) (enQ 1 rfl ?_))))
    refine zcb 6 [5, 4, 0, 3, 2, 1] rfl rfl (by decide) ?_
    exact zbg (k + 1) (gs.set k (An.mk ((2 * (1 + n.ins)) + xhR15) ((2 * (1 + n.ins)) + xhR18))) ⟨by rw [List.length_set]; omega, by rw [List.length_set]; exact hgl, ans_set (by omega) hgo (by unfold LtOk; omega) (by unfold LtOk; omega)⟩ (by omega) (saQ rfl) (.refl _)
   refine ntQ (fsQ rfl (zcj (reQ 1 rfl (hvQ rfl (vaQ rfl rfl rfl) (enQ 1 rfl ?_)))))
   exact zbg (k + 1) gs ⟨by omega, hgl, hgo⟩ (by omega) (saQ rfl) (.refl _)
  refine zbf 1 rfl (zak rfl ?_)
  refine zbb (zda ?_)
  refine zad (zas (srQ (hvQ rfl (zaz (cs := [.int .i64 n.ins, n.sv, n.av, n.ov]) rfl rfl rfl rfl rfl (zax 4 rfl 0 rfl)) ?_)))
  refine zcp (cs' := #[.int .i64 n.ins, n.sv, n.av, n.ov]) (i := 5) (off := 0) (us := [.int .i64 n.ins, n.sv, n.av, n.ov]) rfl rfl rfl rfl rfl rfl rfl (zap rfl (zap o1n (zap o2n (zap o3n zce)))) rfl rfl rfl (ntQ ?_)
  refine zav (zcb 6 [5, 4, 3, 2, 1, 0] rfl rfl (by decide) ?_)
  refine zdr 3 rfl ?_
  refine zcb 4 [3, 2, 0, 1] rfl rfl (by decide) ?_
  refine zdr 2 rfl ?_
  exact zed (rs := [.cell 2 28]) (vs := [.agg #[.int .i64 n.ins, n.sv, n.av, n.ov]]) rfl ⟨⟨b1, 0, [.int .i64 n.ins, n.sv, n.av, n.ov], rfl, rfl, by kernel_rfl, by kernel_rfl, zax 2 rfl 0 rfl⟩, trivial⟩ rfl (fun w hm => ⟨_, bigE [curE g a len cap, bigE [sqsE n.sv n.ss, rowE 66 2 n.av gs.length (gs.flatMap anC), rowE 3 1 n.ov n.os.length (n.os.map (Value.int .i64))]], rfl, ⟨Nt.mk n.ins n.sv n.av n.ov n.ss gs n.os, rfl, rfl, ⟨o1n, o2n, o3n⟩, nt_gsC hn hgo hgl⟩, hm.sub (.cons_cons _ (.cons _ (.cons _ (.refl _))))⟩)
 refine zbf 6 rfl (zak rfl ?_)
 refine zbb (zda ?_)
 refine zad (zas (srQ (hvQ rfl (zaz (cs := [.int .i64 n.ins, n.sv, n.av, n.ov]) rfl rfl rfl rfl rfl (zax 4 rfl 0 rfl)) ?_)))
 refine zcp (cs' := #[.int .i64 n.ins, n.sv, n.av, n.ov]) (i := 5) (off := 0) (us := [.int .i64 n.ins, n.sv, n.av, n.ov]) rfl rfl rfl rfl rfl rfl rfl (zap rfl (zap o1n (zap o2n (zap o3n zce)))) rfl rfl rfl (ntQ ?_)
 refine zav (zcb 6 [5, 4, 3, 2, 1, 0] rfl rfl (by decide) ?_)
 refine zdr 3 rfl ?_
 refine zcb 4 [3, 2, 0, 1] rfl rfl (by decide) ?_
 refine zdr 2 rfl ?_
 exact zed (rs := [.cell 2 28]) (vs := [.agg #[.int .i64 n.ins, n.sv, n.av, n.ov]]) rfl ⟨⟨b1, 0, [.int .i64 n.ins, n.sv, n.av, n.ov], rfl, rfl, by kernel_rfl, by kernel_rfl, zax 2 rfl 0 rfl⟩, trivial⟩ rfl (fun w hm => ⟨_, bigE [curE g a len cap, bigE [sqsE n.sv n.ss, rowE 66 2 n.av gs.length (gs.flatMap anC), rowE 3 1 n.ov n.os.length (n.os.map (Value.int .i64))]], rfl, ⟨Nt.mk n.ins n.sv n.av n.ov n.ss gs n.os, rfl, rfl, ⟨o1n, o2n, o3n⟩, nt_gsC hn hgo hgl⟩, hm.sub (.cons_cons _ (.cons _ (.cons _ (.refl _))))⟩)
theorem l16Net_mut (g : Nat) (a : Option Addr) (len cap : Nat) (z : List Int) (w0 : World) (l : List HP) (w : World) (hm0 : Mem w0 (curE g a len cap :: l) w) (hb : BRow .u8 w0 a len cap z) :
   Calls Try.prog 14 #[.pointer (some ⟨g, 0, none⟩)] w (fun e_ w_ => ∃ v_ p_, e_ = .returned v_ ∧ (fun u_ p_ => ∃ (n : Nt) (ps : List HP), u_ = n.agg ∧ p_ = bigE [curE g a len cap, bigE ps] ∧ (∀ w, (bigE ps).holds w → RdsNt w n) ∧ (n.sv.oneCell' = true ∧ n.av.oneCell' = true ∧ n.ov.oneCell' = true) ∧ NtOk n) v_ p_ ∧ Mem w0 (p_ :: l) w_) := by
 refine zdq (N := 43) (args := [.pointer (some ⟨g, 0, none⟩)]) Try.func14 rfl rfl hm0 (srQ ?_)
 refine zea rfl (zcf (z := .agg #[.int .i64 0, .slice none 0 0, .slice none 0 0, .slice none 0 0]) rfl rfl) ?_
 intro b1
 refine ntQ (zab (reQ 1 rfl ?_))
 refine zbp (R := (fun u_ p_ => ∃ n : Nt, u_ = n.agg ∧ p_ = bigE [curE g a len cap, ntE n] ∧ (n.sv.oneCell' = true ∧ n.av.oneCell' = true ∧ n.ov.oneCell' = true) ∧ NtOk n)) 1 rfl rfl rfl rfl rfl (fun l' w hm => l15Net_mut g a len cap z _ _ _ hm hb) ?_
 intro v2 p3 hR4
 obtain ⟨n, rfl, rfl, ⟨o1n, o2n, o3n⟩, hn⟩ := hR4
 refine zcd (l' := (boxE b1 #[.int .i64 0, .slice none 0 0, .slice none 0 0, .slice none 0 0] 28 :: bigE [curE g a len cap, ntE n] :: l)) rfl ?_
 refine zea rfl (zcf (z := .agg #[.int .i64 0, .slice none 0 0, .slice none 0 0, .slice none 0 0]) rfl rfl) ?_
 intro b5
 refine zcp (cs' := #[.int .i64 n.ins, n.sv, n.av, n.ov]) (i := 0) (off := 0) (us := [.int .i64 n.ins, n.sv, n.av, n.ov]) rfl rfl rfl rfl rfl rfl rfl (zap rfl (zap o1n (zap o2n (zap o3n zce)))) rfl rfl rfl (ntQ (ssrQ ?_))
 refine zex 3 [1, 0, 2] rfl rfl (by decide) ?_
 refine zek (curE g a len cap :: ntE n :: boxE b5 #[.int .i64 n.ins, n.sv, n.av, n.ov] 28 :: boxE b1 #[.int .i64 0, .slice none 0 0, .slice none 0 0, .slice none 0 0] 28 :: l) zcv ?_
 refine zex 4 [3, 2, 0, 1] rfl rfl (by decide) ?_
 refine zek (sqsE n.sv n.ss :: rowE 66 2 n.av n.gs.length (n.gs.flatMap anC) :: rowE 3 1 n.ov n.os.length (n.os.map (Value.int .i64)) :: curE g a len cap :: boxE b5 #[.int .i64 n.ins, n.sv, n.av, n.ov] 28 :: boxE b1 #[.int .i64 0, .slice none 0 0, .slice none 0 0, .slice none 0 0] 28 :: l) zcv ?_
 refine zex 6 [5, 4, 3, 2, 1, 0] rfl rfl (by decide) ?_
 refine zek (bigE (n.ss.map sqPart) :: rowE 43 3 n.sv n.ss.length (n.ss.flatMap sqC) :: rowE 66 2 n.av n.gs.length (n.gs.flatMap anC) :: rowE 3 1 n.ov n.os.length (n.os.map (Value.int .i64)) :: curE g a len cap :: boxE b5 #[.int .i64 n.ins, n.sv, n.av, n.ov] 28 :: boxE b1 #[.int .i64 0, .slice none 0 0, .slice none 0 0, .slice none 0 0] 28 :: l) zcv ?_
 have hi0 := hn.i0
 have hi1 := hn.i1
 have hs1 := hn.s1
 have ha1 := hn.a1
 have ho1 := hn.o1
 have hfst : n.fst = 1 + n.ins + n.ss.length := rfl
 refine zbf 1 rfl (zau ?_)
 refine lkQ3 (α := Nat) (β := List Sq) (γ := List HP) [0, 2, 3] rfl (fun i ss ps => (bigE ps :: rowE 43 3 n.sv ss.length (ss.flatMap sqC) :: rowE 66 2 n.av n.gs.length (n.gs.flatMap anC) :: rowE 3 1 n.ov n.os.length (n.os.map (Value.int .i64)) :: curE g a len cap :: boxE b5 #[.int .i64 n.ins, n.sv, n.av, n.ov] 28 :: boxE b1 #[.int .i64 0, .slice none 0 0, .slice none 0 0, .slice none 0 0] 28 :: l)) (fun i ss ps => [(4, .int .i64 (i : Int))]) (fun i ss ps => (1 ≤ i ∧ (i ≤ n.ss.length ∨ i = 1)) ∧ ss.length = n.ss.length ∧ SqsOk n.cnt ss ∧ ∀ w, (bigE ps).holds w → ∀ s ∈ ss, RdsW w s.iv 1 s.xs.length (s.xs.map (Value.int .i64))) (fun i ss ps => n.ss.length - i) 1 n.ss _ ⟨⟨by omega, .inr rfl⟩, rfl, fun s hs => ⟨hn.sq s hs, hn.xs s hs⟩, fun w hw s hs => zcm (hw.1 (sqPart s) (List.mem_map.2 ⟨s, hs, rfl⟩)).2⟩ (saQ rfl) (.refl _) ?_
 intro i ss ps hi6
 obtain ⟨hi, hsl, hso, hps⟩ := hi6
 refine zab (zab (reQ 1 rfl (hvQ rfl (fdQ 1 rfl rfl rfl) (hvQ rfl (zae rfl rfl rfl (zac 5 rfl rfl)) (hvQ rfl (lnQ rfl rfl rfl (zao 1 rfl)) ?_)))))
 refine zbk rfl rfl rfl rfl rfl rfl (fun h7 => ?_) (fun h7 => ?_)
 ·
  refine ntQ (zan rfl (zch (sbQ (zab (reQ 1 rfl ?_)))))
  refine zbp (R := (fun u_ p_ => (∃ b : Bool, u_ = .bool b) ∧ p_ = curE g a len cap)) 4 rfl rfl rfl rfl rfl (fun l' w hm => zef hm hb (2) (by omega) (by omega)) ?_
  intro v8 p9 hR10
  obtain ⟨⟨xhR10, rfl⟩, rfl⟩ := hR10
  refine zcd (l' := (bigE ps :: rowE 43 3 n.sv ss.length (ss.flatMap sqC) :: rowE 66 2 n.av n.gs.length (n.gs.flatMap anC) :: rowE 3 1 n.ov n.os.length (n.os.map (Value.int .i64)) :: curE g a len cap :: boxE b5 #[.int .i64 n.ins, n.sv, n.av, n.ov] 28 :: boxE b1 #[.int .i64 0, .slice none 0 0, .slice none 0 0, .slice none 0 0] 28 :: l)) rfl ?_
  refine zbo (fun h11 => ?_) (fun h11 => ?_)
  ·
   refine zai 1 rfl (hvQ rfl (fdQ 1 rfl rfl rfl) (hvQ rfl (zae rfl rfl rfl (zac 5 rfl rfl)) (hvQ rfl (riQ 3 rfl rfl rfl rfl (zao 1 rfl)) (hvQ rfl (zaw (k0 := 0) rfl rfl rfl (zao 1 rfl) (by omega)) ?_))))
   refine hvQ rfl (zal (u := .int .i64 ((ss.getD 0 sq0).kd)) rfl rfl rfl (zao 1 rfl) ((zbj sqC 3 (fun _ => rfl) ss sq0 (show 0 < _ by omega) (by decide)).trans rfl)) (zcs rfl rfl rfl rfl rfl rfl (fun h12 => ?_) (fun h12 => ?_))
   ·
    refine zbf 1 rfl (zan rfl ?_)
    have hq0 : (0 ≤ (ss.getD 0 sq0).it ∧ (ss.getD 0 sq0).it ≤ 1) ∧ (ss.getD 0 sq0).xs.length = 1 ∧ LtOk ((ss.getD 0 sq0).xs.getD 0 0) n.cnt := by
        have h9 := hso _ (zbc (d := sq0) (show 0 < ss.length by omega))
        rcases h9.1.kind with ⟨_, h8, h7⟩ | ⟨h8, _, _⟩
        · exact ⟨h8, h7, h9.2 _ (getD_mem' (by omega))⟩
        · omega
    have hq1 := hq0.2.1
    refine hc_know (fun w hm => (hps w (hm.holds _ (zbs (i := 0) rfl)) _ (zbc (d := sq0) (show 0 < ss.length by omega))).one) (fun ho0 => ?_)
    refine hc_draw rfl 18 [0, 1, 2, 3, 4, 5, 6, 7, 8, 9, 10, 11, 12, 13, 14, 15, 16, 17] (List.take 18 _) (List.drop 18 _) [[], [0], [], [], [3], [4], [5], [6], [], [8], [9], [10], [11], [12], [13], [14], [7, 15], [1, 2]] [24, 25, 26, 27, 28, 29, 30, 31, 32, 33, 34, 35, 36, 37, 38, 39, 40, 41] (fun i_ vs_ v_ p_ => match i_ with | 0 => v_ = .pointer (some ⟨b5, 0 + 1, none⟩) ∧ p_ = [] | 1 => v_ = n.sv ∧ p_ = [] | 2 => v_ = .int .i64 (i : Int) ∧ p_ = [] | 3 => v_ = .pointer (some ⟨b5, 0 + 1, none⟩) ∧ p_ = [] | 4 => v_ = n.sv ∧ p_ = [] | 5 => v_ = elP n.sv ((0 : Int).toNat * 3) ∧ p_ = [] | 6 => v_ = elP n.sv ((0 : Int).toNat * 3 + 1) ∧ p_ = [] | 7 => v_ = .int .i64 ((ss.getD 0 sq0).it) ∧ p_ = [] | 8 => v_ = .pointer (some ⟨b5, 0 + 1, none⟩) ∧ p_ = [] | 9 => v_ = n.sv ∧ p_ = [] | 10 => v_ = elP n.sv ((0 : Int).toNat * 3) ∧ p_ = [] | 11 => v_ = elP n.sv ((0 : Int).toNat * 3 + 2) ∧ p_ = [] | 12 => v_ = (ss.getD 0 sq0).iv ∧ p_ = [] | 13 => v_ = elP ((ss.getD 0 sq0).iv) ((0 : Int).toNat * 1) ∧ p_ = [] | 14 => v_ = .int .i64 (((ss.getD 0 sq0).xs).getD 0 0) ∧ p_ = [] | 15 => IsRow 3 1 1 ([((ss.getD 0 sq0).xs).getD 0 0].map (Value.int .i64)) v_ p_ | 16 => v_ = .agg #[.int .i64 0, .int .i64 ((ss.getD 0 sq0).it), (List.getD vs_ 1 undef)] ∧ p_ = [] | 17 => v_ = elP n.sv (((i : Int)).toNat * 3) ∧ p_ = [] | _ => True) (List.take_append_drop 18 _).symm (by kernel_rfl) (by kernel_rfl) rfl rfl ?_ ?_
    ·
     refine ⟨?_, ?_, ?_, ?_, ?_, ?_, ?_, ?_, ?_, ?_, ?_, ?_, ?_, ?_, ?_, ?_, ?_, ?_, trivial⟩
     ·
      intro vf pf hR
      exact ovQ rfl (zaq [3] rfl) (zbq (fdQ 1 rfl rfl rfl))
     ·
      intro vf pf hR
      have e0 := hR 0 (by decide)
      exact olQ rfl (sk 24 (congrArg some e0.1) (zag _)) (zbq (zae rfl rfl rfl (zac 5 rfl rfl)))
     ·
      intro vf pf hR
      exact ovQ rfl (zaq [4] rfl) (zbq (zaf rfl))
     ·
      intro vf pf hR
      exact ovQ rfl (zaq [3] rfl) (zbq (fdQ 1 rfl rfl rfl))
     ·
      intro vf pf hR
      have e3 := hR 3 (by decide)
      exact olQ rfl (sk 27 (congrArg some e3.1) (zag _)) (zbq (zae rfl rfl rfl (zac 5 rfl rfl)))
     ·
      intro vf pf hR
      have e4 := hR 4 (by decide)
      exact olQ rfl (sk 28 (congrArg some e4.1) (zag _)) (zbq (riQ 3 rfl rfl rfl rfl (zao 1 rfl)))
     ·
      intro vf pf hR
      have e5 := hR 5 (by decide)
      exact olQ rfl (sk 29 (congrArg some e5.1) (zag _)) (zbq (zaw (k0 := 1) rfl rfl rfl (zao 1 rfl) (by omega)))
     ·
      intro vf pf hR
      have e6 := hR 6 (by decide)
      exact olQ rfl (sk 30 (congrArg some e6.1) (zag _)) (zbq (zal (u := .int .i64 ((ss.getD 0 sq0).it)) rfl rfl rfl (zao 1 rfl) ((zbj sqC 3 (fun _ => rfl) ss sq0 (show 0 < _ by omega) (by decide)).trans rfl)))
     ·
      intro vf pf hR
      exact ovQ rfl (zaq [3] rfl) (zbq (fdQ 1 rfl rfl rfl))
     ·
      intro vf pf hR
      have e8 := hR 8 (by decide)
      exact olQ rfl (sk 32 (congrArg some e8.1) (zag _)) (zbq (zae rfl rfl rfl (zac 5 rfl rfl)))
     ·
      intro vf pf hR
      have e9 := hR 9 (by decide)
      exact olQ rfl (sk 33 (congrArg some e9.1) (zag _)) (zbq (riQ 3 rfl rfl rfl rfl (zao 1 rfl)))
     ·
      intro vf pf hR
      have e10 := hR 10 (by decide)
      exact olQ rfl (sk 34 (congrArg some e10.1) (zag _)) (zbq (zaw (k0 := 2) rfl rfl rfl (zao 1 rfl) (by omega)))
     ·
      intro vf pf hR
      have e11 := hR 11 (by decide)
      exact olQ rfl (sk 35 (congrArg some e11.1) (zag _)) (zbq (zal (u := (ss.getD 0 sq0).iv) rfl rfl rfl (zao 1 rfl) ((zbj sqC 3 (fun _ => rfl) ss sq0 (show 0 < _ by omega) (by decide)).trans rfl)))
     ·
      intro vf pf hR
      have e12 := hR 12 (by decide)
      exact olQ rfl (sk 36 (congrArg some e12.1) (zag _)) (zbq (riQ 1 rfl rfl rfl rfl (fun w hm => hps w (hm.holds _ (zbs (i := 0) rfl)) _ (zbc (d := sq0) (show 0 < ss.length by omega)))))
     ·
      intro vf pf hR
      have e13 := hR 13 (by decide)
      exact olQ rfl (sk 37 (congrArg some e13.1) (zag _)) (zbq (zal (u := .int .i64 (((ss.getD 0 sq0).xs).getD 0 0)) rfl rfl rfl (fun w hm => hps w (hm.holds _ (zbs (i := 0) rfl)) _ (zbc (d := sq0) (show 0 < ss.length by omega))) (zdm (show _ < ((ss.getD 0 sq0).xs).length by omega))))
     ·
      intro vf pf hR
      have e14 := hR 14 (by decide)
      exact olQ rfl (sk 38 (congrArg some e14.1) (zag _)) (zay (z := .int .i64 0) (s := 1) (cs := ([((ss.getD 0 sq0).xs).getD 0 0].map (Value.int .i64))) rfl Try.underlying26 rfl (by decide) rfl (by kernel_rfl) rfl)
     ·
      intro vf pf hR
      have e7 := hR 7 (by decide)
      have e15 : IsRow 3 1 1 ([((ss.getD 0 sq0).xs).getD 0 0].map (Value.int .i64)) (vf 15) (pf 15) := hR 15 (by decide)
      obtain ⟨g13, vE15, pE15⟩ := e15
      refine Or.inl ⟨rfl, ?_⟩
      exact zbt (sk 31 (congrArg some e7.1) (sk 39 (congrArg some vE15) (zag _))) (by simp only [pE15, vE15, e7.2, fS] <;> rfl) (zbz (zbq (rv_build (cs := #[.int .i64 0, .int .i64 ((ss.getD 0 sq0).it), .slice (some ⟨g13, 0, none⟩) 1 1]) rfl rfl rfl)) (fun _ _ h => ⟨h.1.trans (by show _ = (.agg #[.int .i64 0, .int .i64 ((ss.getD 0 sq0).it), (vf 15)] : Value); first | (rw [vE15]; done) | (rw [vE15]; rfl)), h.2⟩))
     intro vf pf hR
     have e1 := hR 1 (by decide)
     have e2 := hR 2 (by decide)
     exact olQ rfl (sk 25 (congrArg some e1.1) (sk 26 (congrArg some e2.1) (zag _))) (zbq (riQ 3 rfl rfl rfl rfl (zao 1 rfl)))
    intro vf pf hR
    have e15 : IsRow 3 1 1 ([((ss.getD 0 sq0).xs).getD 0 0].map (Value.int .i64)) (vf 15) (pf 15) := hR 15 (by decide)
    obtain ⟨g13, vE15, pE15⟩ := e15
    have e16 : (vf 16) = .agg #[.int .i64 0, .int .i64 ((ss.getD 0 sq0).it), (vf 15)] ∧ (pf 16) = [] := hR 16 (by decide)
    rw [vE15] at e16
    have e17 := hR 17 (by decide)
    have q0 := hR 0 (by decide)
    have q1 := hR 1 (by decide)
    have q2 := hR 2 (by decide)
    have q3 := hR 3 (by decide)
    have q4 := hR 4 (by decide)
    have q5 := hR 5 (by decide)
    have q6 := hR 6 (by decide)
    have q7 := hR 7 (by decide)
    have q8 := hR 8 (by decide)
    have q9 := hR 9 (by decide)
    have q10 := hR 10 (by decide)
    have q11 := hR 11 (by decide)
    have q12 := hR 12 (by decide)
    have q13 := hR 13 (by decide)
    have q14 := hR 14 (by decide)
    have q16 := hR 16 (by decide)
    have q17 := hR 17 (by decide)
    refine zcy (zcc [23, 11, 4, 3, 2, 0] _ (sk 40 (congrArg some e16.1) (sk 41 (congrArg some e17.1) (zag _))) rfl) (by simp only [pE15, vE15, q0.2, q1.2, q2.2, q3.2, q4.2, q5.2, q6.2, q7.2, q8.2, q9.2, q10.2, q11.2, q12.2, q13.2, q14.2, q16.2, q17.2, fS] <;> rfl) ?_
    simp only [List.drop_succ_cons, List.drop_zero]
    refine hl_storeElN (i := 2) (us := [.int .i64 0, .int .i64 ((ss.getD 0 sq0).it), .slice (some ⟨g13, 0, none⟩) 1 1]) (n' := (ss.set i (Sq.mk 0 ((ss.getD 0 sq0).it) (.slice (some ⟨g13, 0, none⟩) 1 1) ([((ss.getD 0 sq0).xs).getD 0 0]))).length) (xs' := ((ss.set i (Sq.mk 0 ((ss.getD 0 sq0).it) (.slice (some ⟨g13, 0, none⟩) 1 1) ([((ss.getD 0 sq0).xs).getD 0 0]))).flatMap sqC)) (l' := (rowE 3 1 (.slice (some ⟨g13, 0, none⟩) 1 1) 1 ([((ss.getD 0 sq0).xs).getD 0 0].map (Value.int .i64)) :: bigE ps :: rowE 43 3 n.sv ((ss.set i (Sq.mk 0 ((ss.getD 0 sq0).it) (.slice (some ⟨g13, 0, none⟩) 1 1) ([((ss.getD 0 sq0).xs).getD 0 0]))).length) ((ss.set i (Sq.mk 0 ((ss.getD 0 sq0).it) (.slice (some ⟨g13, 0, none⟩) 1 1) ([((ss.getD 0 sq0).xs).getD 0 0]))).flatMap sqC) :: rowE 66 2 n.av n.gs.length (n.gs.flatMap anC) :: rowE 3 1 n.ov n.os.length (n.os.map (Value.int .i64)) :: curE g a len cap :: boxE b5 #[.int .i64 n.ins, n.sv, n.av, n.ov] 28 :: boxE b1 #[.int .i64 0, .slice none 0 0, .slice none 0 0, .slice none 0 0] 28 :: l)) rfl rfl rfl rfl rfl rfl (zap rfl (zap rfl (zap rfl zce))) rfl (by first | omega | (simp only [List.length_set]; omega)) (by simp only [List.length_cons, List.length_nil]; first | omega | (simp only [List.length_set]; omega)) List.length_set.symm (flat_put sqC 3 (fun _ => rfl) _ (Sq.mk 0 ((ss.getD 0 sq0).it) (.slice (some ⟨g13, 0, none⟩) 1 1) ([((ss.getD 0 sq0).xs).getD 0 0])) (by first | omega | (simp only [List.length_set]; omega))) rfl ?_
    refine zbw (zcj (reQ 1 rfl (hvQ rfl (vaQ rfl rfl rfl) (enQ 1 rfl ?_))))
    refine zcb 8 [7, 6, 5, 4, 3, 2, 0, 1] rfl rfl (by decide) ?_
    refine zdr 2 rfl ?_
    exact zbh (i + 1) (ss.set i (Sq.mk 0 ((ss.getD 0 sq0).it) (.slice (some ⟨g13, 0, none⟩) 1 1) ([((ss.getD 0 sq0).xs).getD 0 0]))) [bigE ps, rowE 3 1 (.slice (some ⟨g13, 0, none⟩) 1 1) 1 ([((ss.getD 0 sq0).xs).getD 0 0].map (Value.int .i64))] ⟨by omega, by rw [List.length_set]; exact hsl, sqs_set hso ⟨.inl ⟨rfl, hq0.1, rfl⟩⟩ (fun x hx => by rw [List.mem_singleton] at hx; subst hx; exact hq0.2.2), fun w hw s hs => (List.mem_or_eq_of_mem_set hs).elim (fun h9 => hps w (zdh hw List.mem_cons_self) s h9) (fun h9 => by subst h9; exact zcm (zdh hw (List.mem_cons_of_mem _ List.mem_cons_self)))⟩ (by omega) (saQ rfl) (.refl _)
   refine zbf 1 rfl (fsQ rfl (zcj (reQ 1 rfl (hvQ rfl (vaQ rfl rfl rfl) (enQ 1 rfl ?_)))))
   exact zbh (i + 1) ss ps ⟨by omega, hsl, hso, hps⟩ (by omega) (saQ rfl) (.refl _)
  refine zbf 8 rfl (fsQ rfl (zdf ?_))
  refine zas (reQ 1 rfl (hvQ rfl (vaQ rfl rfl rfl) (enQ 1 rfl ?_)))
  exact zbh (i + 1) ss ps ⟨by omega, hsl, hso, hps⟩ (by omega) (saQ rfl) (.refl _)
 refine ntQ (zak rfl ?_)
 refine zbb (zda ?_)
 refine zad (zas (srQ (hvQ rfl (zaz (cs := [.int .i64 n.ins, n.sv, n.av, n.ov]) rfl rfl rfl rfl rfl (zax 5 rfl 0 rfl)) ?_)))
 refine zcp (cs' := #[.int .i64 n.ins, n.sv, n.av, n.ov]) (i := 6) (off := 0) (us := [.int .i64 n.ins, n.sv, n.av, n.ov]) rfl rfl rfl rfl rfl rfl rfl (zap rfl (zap o1n (zap o2n (zap o3n zce)))) rfl rfl rfl (ntQ ?_)
 refine zav (zcb 7 [6, 5, 4, 3, 2, 1, 0] rfl rfl (by decide) ?_)
 refine zdr 4 rfl ?_
 refine zcb 4 [3, 2, 0, 1] rfl rfl (by decide) ?_
 refine zdr 2 rfl ?_
 exact zed (rs := [.cell 2 28]) (vs := [.agg #[.int .i64 n.ins, n.sv, n.av, n.ov]]) rfl ⟨⟨b1, 0, [.int .i64 n.ins, n.sv, n.av, n.ov], rfl, rfl, by kernel_rfl, by kernel_rfl, zax 2 rfl 0 rfl⟩, trivial⟩ rfl (fun w hm => ⟨_, bigE [curE g a len cap, bigE [bigE ps, rowE 43 3 n.sv ss.length (ss.flatMap sqC), rowE 66 2 n.av n.gs.length (n.gs.flatMap anC), rowE 3 1 n.ov n.os.length (n.os.map (Value.int .i64))]], rfl, ⟨Nt.mk n.ins n.sv n.av n.ov ss n.gs n.os, _, rfl, rfl, fun w hw => ⟨zcm (zdh hw (List.mem_cons_of_mem _ List.mem_cons_self)), hps w (zdh hw List.mem_cons_self), zcm (zdh hw (List.mem_cons_of_mem _ (List.mem_cons_of_mem _ List.mem_cons_self))), zcm (zdh hw (List.mem_cons_of_mem _ (List.mem_cons_of_mem _ (List.mem_cons_of_mem _ List.mem_cons_self))))⟩, ⟨o1n, o2n, o3n⟩, nt_ssC hn hso hsl⟩, hm.sub (.cons_cons _ (.cons _ (.cons _ (.refl _))))⟩)
theorem pickIntL_mut (g : Nat) (a : Option Addr) (len cap : Nat) (z : List Int) (v : Value) (L : List Int) (w0 : World) (l : List HP) (w : World) (hm0 : Mem w0 (curE g a len cap :: l) w) (hb : BRow .u8 w0 a len cap z) (hv : Rd w0 l v 1 L.length (L.map (Value.int .i64))) (hL : 1 ≤ L.length ∧ L.length ≤ 256) :
   Calls Try.prog 41 #[.pointer (some ⟨g, 0, none⟩), v] w (fun e_ w_ => ∃ v_ p_, e_ = .returned v_ ∧ (fun u_ p_ => (∃ x : Int, u_ = .int .i64 x ∧ x ∈ L) ∧ p_ = curE g a len cap) v_ p_ ∧ Mem w0 (p_ :: l) w_) := by
 refine zdq (N := 12) (args := [.pointer (some ⟨g, 0, none⟩), v]) Try.func41 rfl rfl hm0 (zbe 1 rfl (zab (reQ 3 rfl ?_)))
 refine hvQ rfl (lnQ rfl rfl rfl (fun w hm => hv w (hm.sub (.cons _ (.refl _))))) (zbp (R := (fun u_ p_ => (∃ x_ : Int, u_ = .int .i64 x_ ∧ 0 ≤ x_ ∧ x_ < (L.length : Int)) ∧ p_ = curE g a len cap)) 0 rfl rfl rfl rfl rfl (fun l' w hm => zbn g a len cap z (L.length : Int) _ _ _ hm hb (by constructor <;> omega)) ?_)
 intro v1 p2 hR3
 obtain ⟨⟨xhR3, rfl, xhR30, xhR31⟩, rfl⟩ := hR3
 refine zcd (l' := (curE g a len cap :: l)) rfl ?_
 refine hvQ rfl (riQ 1 rfl rfl rfl rfl (fun w hm => hv w (hm.sub (.cons _ (.refl _))))) (hvQ rfl (lzQ rfl rfl rfl (fun w hm => hv w (hm.sub (.cons _ (.refl _))))) ?_)
 refine zbf 1 rfl ?_
 exact zav (zed (rs := [.tmp 4]) (vs := [.int .i64 (L.getD ((xhR3).toNat) 0)]) rfl ⟨rfl, trivial⟩ rfl (fun w hm => ⟨_, curE g a len cap, rfl, ⟨⟨_, rfl, getD_mem' (es := L) (d := 0) (by omega)⟩, rfl⟩, hm.sub (.refl _)⟩))
theorem l01Place3_mut (g : Nat) (a : Option Addr) (len cap : Nat) (z : List Int) (w0 : World) (l : List HP) (w : World) (hm0 : Mem w0 (curE g a len cap :: l) w) (hb : BRow .u8 w0 a len cap z) :
   Calls Try.prog 34 #[.pointer (some ⟨g, 0, none⟩), .int .i64 3] w (fun e_ w_ => ∃ v_ p_, e_ = .returned v_ ∧ (fun u_ p_ => (∃ x : Int, u_ = .int .i64 x) ∧ p_ = curE g a len cap) v_ p_ ∧ Mem w0 (p_ :: l) w_) := by
 refine zdq (N := 16) (args := [.pointer (some ⟨g, 0, none⟩), .int .i64 3]) Try.func34 rfl rfl hm0 (zbe 1 rfl (zab (zab (reQ 1 rfl ?_))))
 refine zbp (R := (fun u_ p_ => (∃ b : Bool, u_ = .bool b) ∧ p_ = curE g a len cap)) 0 rfl rfl rfl rfl rfl (fun l' w hm => zef hm hb (15) (by omega) (by omega)) ?_
 intro v1 p2 hR3
 obtain ⟨⟨xhR3, rfl⟩, rfl⟩ := hR3
 refine zcd (l' := (curE g a len cap :: l)) rfl ?_
 refine zbo (fun h4 => ?_) (fun h4 => ?_)
 ·
  refine ntQ (zan rfl (zab (reQ 3 rfl (hvQ rfl (vaQ rfl rfl rfl) ?_))))
  refine hrwQ rfl (zay (z := .int .i64 0) (s := 1) (cs := ([-1, 3, 3 + 1, 9223372036854775807, -9223372036854775808].map (Value.int .i64))) rfl Try.underlying26 rfl (by decide) rfl (by kernel_rfl) rfl) ?_
  intro g5
  refine hl_callM2 (R := (fun u_ p_ => (∃ x : Int, u_ = .int .i64 x ∧ x ∈ ([-1, 3, 3 + 1, 9223372036854775807, -9223372036854775808] : List Int)) ∧ p_ = curE g a len cap)) 1 rfl rfl rfl rfl rfl (fun L w hX hm => pickIntL_mut g a len cap z (.slice (some ⟨g5, 0, none⟩) 5 5) ([-1, 3, 3 + 1, 9223372036854775807, -9223372036854775808] : List Int) _ _ _ hm hb (fun w hm => (zao (l := (rowE 3 1 (.slice (some ⟨g5, 0, none⟩) 5 5) 5 ([-1, 3, 3 + 1, 9223372036854775807, -9223372036854775808].map (Value.int .i64)) :: l)) 0 rfl) w (hX w hm)) (by decide)) ?_
  intro v6 p7 hR8
  obtain ⟨⟨xhR8, rfl, -⟩, rfl⟩ := hR8
  refine zcd (l' := (rowE 3 1 (.slice (some ⟨g5, 0, none⟩) 5 5) 5 ([-1, 3, 3 + 1, 9223372036854775807, -9223372036854775808].map (Value.int .i64)) :: curE g a len cap :: l)) rfl ?_
  refine zbf 1 rfl ?_
  refine zav (zam ?_)
  exact zed (rs := [.tmp 4]) (vs := [.int .i64 xhR8]) rfl ⟨rfl, trivial⟩ rfl (fun w hm => ⟨_, curE g a len cap, rfl, ⟨⟨_, rfl⟩, rfl⟩, hm.sub (.cons _ (.refl _))⟩)
 refine ntQ (zak rfl (zch (zab (reQ 2 rfl ?_))))
 refine zbp (R := (fun u_ p_ => (∃ x_ : Int, u_ = .int .i64 x_ ∧ 0 ≤ x_ ∧ x_ < 3) ∧ p_ = curE g a len cap)) 0 rfl rfl rfl rfl rfl (fun l' w hm => zbn g a len cap z 3 _ _ _ hm hb (by constructor <;> omega)) ?_
 intro v9 p10 hR11
 obtain ⟨⟨xhR11, rfl, xhR110, xhR111⟩, rfl⟩ := hR11
 refine zcd (l' := (curE g a len cap :: l)) rfl ?_
 refine zbf 1 rfl ?_
 exact zav (zed (rs := [.tmp 4]) (vs := [.int .i64 xhR11]) rfl ⟨rfl, trivial⟩ rfl (fun w hm => ⟨_, curE g a len cap, rfl, ⟨⟨_, rfl⟩, rfl⟩, hm.sub (.refl _)⟩))
theorem l16Classes_mut (g : Nat) (a : Option Addr) (len cap : Nat) (z : List Int) (n : Nt) (w0 : World) (l : List HP) (w : World) (hm0 : Mem w0 (curE g a len cap :: l) w) (hb : BRow .u8 w0 a len cap z) (hrn : ∀ w, Mem w0 l w → RdsNt w n) (hn : NtOk n) :
   Calls Try.prog 15 #[.pointer (some ⟨g, 0, none⟩), .agg #[.int .i64 n.ins, n.sv, n.av, n.ov]] w (fun e_ w_ => ∃ v_ p_, e_ = .returned v_ ∧ (fun u_ p_ => ∃ is : List Int, p_ = bigE [curE g a len cap, rowE 3 1 u_ is.length (is.map (Value.int .i64))]) v_ p_ ∧ Mem w0 (p_ :: l) w_) := by
 have hr := hrn w (hm0.sub (.cons _ (.refl _)))
 have hi0 := hn.i0
 have hi1 := hn.i1
 have hs1 := hn.s1
 have ha1 := hn.a1
 have ho1 := hn.o1
 have hcnt : n.cnt = 1 + n.ins + n.ss.length + n.gs.length := rfl
 have hfst : n.fst = 1 + n.ins + n.ss.length := rfl
 refine zdq (N := 50) (args := [.pointer (some ⟨g, 0, none⟩), .agg #[.int .i64 n.ins, n.sv, n.av, n.ov]]) Try.func15 rfl rfl hm0 (srQ ?_)
 refine zea rfl (zcg rfl rfl) ?_
 intro b1
 refine zbf 1 rfl (zab (zab (reQ 1 rfl ?_)))
 refine zbp (R := (fun u_ p_ => (∃ b : Bool, u_ = .bool b) ∧ p_ = curE g a len cap)) 1 rfl rfl rfl rfl rfl (fun l' w hm => zef hm hb (2) (by omega) (by omega)) ?_
 intro v2 p3 hR4
 obtain ⟨⟨xhR4, rfl⟩, rfl⟩ := hR4
 refine zcd (l' := (boxE b1 #[.int .i64 n.ins, n.sv, n.av, n.ov] 28 :: curE g a len cap :: l)) rfl ?_
 refine zbo (fun h5 => ?_) (fun h5 => ?_)
 ·
  refine zai 1 rfl (hvQ rfl (zaz (cs := [.int .i64 n.ins, n.sv, n.av, n.ov]) rfl rfl rfl rfl rfl (zax 0 rfl 0 rfl)) ?_)
  refine zee rfl (zaj rfl rfl (fun w hm => zat (zdt n w (hrn w (hm.sub ((.cons _ (.cons _ (.refl _)))))) hn))) (zbf 1 rfl (zan rfl (srQ (hvQ rfl (zaz (cs := [.int .i64 n.ins, n.sv, n.av, n.ov]) rfl rfl rfl rfl rfl (zax 0 rfl 0 rfl)) ?_))))
  refine hl_q rfl rfl rfl (zaj rfl rfl (fun w hm => zet n w (hrn w (hm.sub ((.cons _ (.cons _ (.refl _)))))) hn)) ?_
  intro v6 p7 hR8
  obtain ⟨rzhR8, rfl, hrlhR8⟩ := hR8
  refine zbf 1 rfl ?_
  refine zav (zam ?_)
  refine zcb 3 [1, 0, 2] rfl rfl (by decide) ?_
  refine zdr 2 rfl ?_
  exact zed (rs := [.tmp 4]) (vs := [v6]) rfl ⟨rfl, trivial⟩ rfl (fun w hm => ⟨_, bigE [curE g a len cap, rowE 3 1 v6 rzhR8.length (rzhR8.map (Value.int .i64))], rfl, ⟨_, rfl⟩, hm.sub (.cons_cons _ (.cons _ (.refl _)))⟩)
 refine zbf 4 rfl (zak rfl (zch (srQ ?_)))
 refine hrwQ rfl (zec (s := 1) rfl Try.underlying26 rfl) ?_
 intro g9
 refine zbf 1 rfl (zab (zbe 1 rfl (zau ?_)))
 refine lkQ3 (α := Nat) (β := List Int) (γ := Value) [0, 1, 3, 4, 13] rfl (fun i zs zv => (rowE 3 1 zv zs.length (zs.map (Value.int .i64)) :: boxE b1 #[.int .i64 n.ins, n.sv, n.av, n.ov] 28 :: curE g a len cap :: l)) (fun i zs zv => [(5, zv), (6, .int .i64 (i : Int))]) (fun i zs zv => i ≤ n.ss.length ∧ zs.length = i) (fun i zs zv => n.ss.length - i) 0 [] _ ⟨Nat.zero_le _, rfl⟩ (saQ rfl) (.refl _) ?_
 intro i zs zv hi10
 obtain ⟨hi, hzl⟩ := hi10
 refine zab (zab (reQ 1 rfl (hvQ rfl (fdQ 1 rfl rfl rfl) (hvQ rfl (zae rfl rfl rfl (zac 1 rfl rfl)) ?_))))
 refine hvQ rfl (lnQ rfl rfl rfl (fun w hm => (hrn w (hm.sub ((.cons _ (.cons _ (.cons _ (.refl _))))))).sq)) (zbk rfl rfl rfl rfl rfl rfl (fun h11 => ?_) (fun h11 => ?_))
 ·
  refine ntQ (zan rfl (zch (sbQ (zab (reQ 2 rfl (hvQ rfl (vaQ rfl rfl rfl) ?_))))))
  refine zbp (R := (fun u_ p_ => (∃ x_ : Int, u_ = .int .i64 x_ ∧ 0 ≤ x_ ∧ x_ < (i : Int) + 1) ∧ p_ = curE g a len cap)) 2 rfl rfl rfl rfl rfl (fun l' w hm => zbn g a len cap z ((i : Int) + 1) _ _ _ hm hb (by constructor <;> omega)) ?_
  intro v12 p13 hR14
  obtain ⟨⟨xhR14, rfl, xhR140, xhR141⟩, rfl⟩ := hR14
  refine zcd (l' := (rowE 3 1 zv zs.length (zs.map (Value.int .i64)) :: boxE b1 #[.int .i64 n.ins, n.sv, n.av, n.ov] 28 :: curE g a len cap :: l)) rfl ?_
  refine zbf 1 rfl (zab (zab (reQ 1 rfl ?_)))
  refine zbp (R := (fun u_ p_ => (∃ b : Bool, u_ = .bool b) ∧ p_ = curE g a len cap)) 2 rfl rfl rfl rfl rfl (fun l' w hm => zef hm hb (2) (by omega) (by omega)) ?_
  intro v15 p16 hR17
  obtain ⟨⟨xhR17, rfl⟩, rfl⟩ := hR17
  refine zcd (l' := (rowE 3 1 zv zs.length (zs.map (Value.int .i64)) :: boxE b1 #[.int .i64 n.ins, n.sv, n.av, n.ov] 28 :: curE g a len cap :: l)) rfl ?_
  refine zbo (fun h18 => ?_) (fun h18 => ?_)
  ·
   refine ntQ (zan rfl (zar (zbf 2 rfl (zab (zab (reQ 2 rfl ?_))))))
   refine zbk rfl rfl rfl rfl rfl rfl (fun h19 => ?_) (fun h19 => ?_)
   ·
    refine ntQ (zan rfl (reQ 2 rfl (hvQ rfl (riQ 1 rfl rfl rfl rfl (zao 0 rfl)) (hvQ rfl (liQ rfl rfl rfl (zao 0 rfl)) (zbf 1 rfl (reQ 2 rfl ?_))))))
    refine hrwQ rfl (zay (z := .int .i64 0) (s := 1) (cs := ([zs.getD i 0].map (Value.int .i64))) rfl Try.underlying26 rfl (by decide) rfl (by kernel_rfl) rfl) ?_
    intro g20
    refine zck (i := 1) (z := .int .i64 0) (bytes := 8) rfl rfl rfl rfl Try.underlying26 (by kernel_rfl) rfl rfl rfl rfl (zao 0 rfl) (zbv _) (by first | omega | (simp; done) | (simp; omega)) (zca zs ([zs.getD i 0])) (zby zs ([zs.getD i 0])) (fun _ => rfl) ?_
    intro v21
    refine enQ 1 rfl (zcj (reQ 1 rfl (hvQ rfl (vaQ rfl rfl rfl) (enQ 1 rfl ?_))))
    exact zbh (i + 1) (zs ++ ([zs.getD i 0])) v21 ⟨by omega, by rw [List.length_append, List.length_singleton]; omega⟩ (by omega) (saQ rfl) (.cons _ (.refl _))
   refine ntQ (zak rfl (zch (reQ 2 rfl ?_)))
   refine hrwQ rfl (zay (z := .int .i64 0) (s := 1) (cs := ([(i : Int)].map (Value.int .i64))) rfl Try.underlying26 rfl (by decide) rfl (by kernel_rfl) rfl) ?_
   intro g22
   refine zck (i := 1) (z := .int .i64 0) (bytes := 8) rfl rfl rfl rfl Try.underlying26 (by kernel_rfl) rfl rfl rfl rfl (zao 0 rfl) (zbv _) (by first | omega | (simp; done) | (simp; omega)) (zca zs ([(i : Int)])) (zby zs ([(i : Int)])) (fun _ => rfl) ?_
   intro v23
   refine enQ 1 rfl (zcj (reQ 1 rfl (hvQ rfl (vaQ rfl rfl rfl) (enQ 1 rfl ?_))))
   exact zbh (i + 1) (zs ++ ([(i : Int)])) v23 ⟨by omega, by rw [List.length_append, List.length_singleton]; omega⟩ (by omega) (saQ rfl) (.cons _ (.refl _))
  refine ntQ (zak rfl (zch (zab (zab (reQ 2 rfl ?_)))))
  refine zbk rfl rfl rfl rfl rfl rfl (fun h24 => ?_) (fun h24 => ?_)
  ·
   refine ntQ (zan rfl (reQ 2 rfl (hvQ rfl (riQ 1 rfl rfl rfl rfl (zao 0 rfl)) (hvQ rfl (lzQ rfl rfl rfl (zao 0 rfl)) (zbf 1 rfl (reQ 2 rfl ?_))))))
   refine hrwQ rfl (zay (z := .int .i64 0) (s := 1) (cs := ([zs.getD ((xhR14).toNat) 0].map (Value.int .i64))) rfl Try.underlying26 rfl (by decide) rfl (by kernel_rfl) rfl) ?_
   intro g25
   refine zck (i := 1) (z := .int .i64 0) (bytes := 8) rfl rfl rfl rfl Try.underlying26 (by kernel_rfl) rfl rfl rfl rfl (zao 0 rfl) (zbv _) (by first | omega | (simp; done) | (simp; omega)) (zca zs ([zs.getD ((xhR14).toNat) 0])) (zby zs ([zs.getD ((xhR14).toNat) 0])) (fun _ => rfl) ?_
   intro v26
   refine enQ 1 rfl (zcj (reQ 1 rfl (hvQ rfl (vaQ rfl rfl rfl) (enQ 1 rfl ?_))))
   exact zbh (i + 1) (zs ++ ([zs.getD ((xhR14).toNat) 0])) v26 ⟨by omega, by rw [List.length_append, List.length_singleton]; omega⟩ (by omega) (saQ rfl) (.cons _ (.refl _))
  refine ntQ (zak rfl (zch (reQ 2 rfl ?_)))
  refine hrwQ rfl (zay (z := .int .i64 0) (s := 1) (cs := ([xhR14].map (Value.int .i64))) rfl Try.underlying26 rfl (by decide) rfl (by kernel_rfl) rfl) ?_
  intro g27
  refine zck (i := 1) (z := .int .i64 0) (bytes := 8) rfl rfl rfl rfl Try.underlying26 (by kernel_rfl) rfl rfl rfl rfl (zao 0 rfl) (zbv _) (by first | omega | (simp; done) | (simp; omega)) (zca zs ([xhR14])) (zby zs ([xhR14])) (fun _ => rfl) ?_
  intro v28
  refine enQ 1 rfl (zcj (reQ 1 rfl (hvQ rfl (vaQ rfl rfl rfl) (enQ 1 rfl ?_))))
  exact zbh (i + 1) (zs ++ ([xhR14])) v28 ⟨by omega, by rw [List.length_append, List.length_singleton]; omega⟩ (by omega) (saQ rfl) (.cons _ (.refl _))
 refine ntQ (zak rfl ?_)
 refine zbb (zda ?_)
 refine zad (zas (zab (zab (reQ 1 rfl ?_))))
 refine zbp (R := (fun u_ p_ => (∃ b : Bool, u_ = .bool b) ∧ p_ = curE g a len cap)) 2 rfl rfl rfl rfl rfl (fun l' w hm => zef hm hb (8) (by omega) (by omega)) ?_
 intro v29 p30 hR31
 obtain ⟨⟨xhR31, rfl⟩, rfl⟩ := hR31
 refine zcd (l' := (rowE 3 1 zv zs.length (zs.map (Value.int .i64)) :: boxE b1 #[.int .i64 n.ins, n.sv, n.av, n.ov] 28 :: curE g a len cap :: l)) rfl ?_
 refine zbo (fun h32 => ?_) (fun h32 => ?_)
 ·
  refine ntQ (zan rfl (reQ 2 rfl ?_))
  refine zbp (R := (fun u_ p_ => (∃ x : Int, u_ = .int .i64 x) ∧ p_ = curE g a len cap)) 2 rfl rfl rfl rfl rfl (fun l' w hm => l01Place3_mut g a len cap z _ _ _ hm hb) ?_
  intro v33 p34 hR35
  obtain ⟨⟨xhR35, rfl⟩, rfl⟩ := hR35
  refine zcd (l' := (rowE 3 1 zv zs.length (zs.map (Value.int .i64)) :: boxE b1 #[.int .i64 n.ins, n.sv, n.av, n.ov] 28 :: curE g a len cap :: l)) rfl ?_
  refine hrwQ rfl (zay (z := .int .i64 0) (s := 1) (cs := ([xhR35].map (Value.int .i64))) rfl Try.underlying26 rfl (by decide) rfl (by kernel_rfl) rfl) ?_
  intro g36
  refine zck (i := 1) (z := .int .i64 0) (bytes := 8) rfl rfl rfl rfl Try.underlying26 (by kernel_rfl) rfl rfl rfl rfl (zao 0 rfl) (zbv _) (by first | omega | (simp; done) | (simp; omega)) (zca zs ([xhR35])) (zby zs ([xhR35])) (fun _ => rfl) ?_
  intro v37
  refine zbf 1 rfl (zbe 2 rfl ?_)
  refine zav (zcb 4 [2, 0, 1, 3] rfl rfl (by decide) ?_)
  refine zdr 2 rfl ?_
  exact zed (rs := [.tmp 4]) (vs := [v37]) rfl ⟨rfl, trivial⟩ rfl (fun w hm => ⟨_, bigE [curE g a len cap, rowE 3 1 v37 ((zs ++ ([xhR35])).length) ((zs ++ ([xhR35])).map (Value.int .i64))], rfl, ⟨_, rfl⟩, hm.sub (.cons_cons _ (.cons _ (.cons _ (.refl _))))⟩)
 refine ntQ (zak rfl (zch (zbe 2 rfl ?_)))
 refine zav (zcb 3 [1, 0, 2] rfl rfl (by decide) ?_)
 refine zdr 2 rfl ?_
 exact zed (rs := [.tmp 4]) (vs := [zv]) rfl ⟨rfl, trivial⟩ rfl (fun w hm => ⟨_, bigE [curE g a len cap, rowE 3 1 zv zs.length (zs.map (Value.int .i64))], rfl, ⟨_, rfl⟩, hm.sub (.cons_cons _ (.cons _ (.refl _)))⟩)
theorem DrawClasses_ret (a : Option Addr) (len cap : Nat) (z : List Int) (w : World) (hb : BRow .u8 w a len cap z) (hlen : len ≤ 1048576) :
   Calls Try.prog 5 #[.slice a len cap] w (Ret w (fun u_ p_ => ∃ (n : Nt) (ps : List HP) (cs : List Int) (cv : Value), u_ = .tuple #[n.agg, cv] ∧ p_ = [bigE ps] ∧ (∀ w, (bigE ps).holds w → RdsNt w n ∧ RdsW w cv 1 cs.length (cs.map (Value.int .i64))) ∧ (n.sv.oneCell' = true ∧ n.av.oneCell' = true ∧ n.ov.oneCell' = true) ∧ cv.oneCell' = true ∧ NtOk n ∧ cs.length ≤ 12)) := by
 refine zba (N := 23) (args := [.slice a len cap]) Try.func5 rfl rfl (srQ ?_)
 refine zea rfl (zcf (z := .agg #[.int .i64 0, .slice none 0 0, .slice none 0 0, .slice none 0 0]) rfl rfl) ?_
 intro b1
 refine zbf 1 rfl (zab (reQ 1 rfl ?_))
 refine hl_q rfl rfl rfl (zaj rfl rfl (fun w hm => new_ret (hb.below hm.bel) hlen)) ?_
 intro v2 p3 hR4
 obtain ⟨ghR4, rfl, rfl⟩ := hR4
 refine zbf 1 rfl (zab (reQ 1 rfl ?_))
 refine zbp (R := (fun u_ p_ => ∃ (n : Nt) (ps : List HP), u_ = n.agg ∧ p_ = bigE [curE ghR4 a len cap, bigE ps] ∧ (∀ w, (bigE ps).holds w → RdsNt w n) ∧ (n.sv.oneCell' = true ∧ n.av.oneCell' = true ∧ n.ov.oneCell' = true) ∧ NtOk n)) 0 rfl rfl rfl rfl rfl (fun l' w hm => l16Net_mut ghR4 a len cap z _ _ _ hm hb) ?_
 intro v5 p6 hR7
 obtain ⟨n, ps, rfl, rfl, hps, ⟨o1n, o2n, o3n⟩, hn⟩ := hR7
 refine zcd (l' := [bigE [curE ghR4 a len cap, bigE ps], boxE b1 #[.int .i64 0, .slice none 0 0, .slice none 0 0, .slice none 0 0] 28]) rfl ?_
 refine zea rfl (zcf (z := .agg #[.int .i64 0, .slice none 0 0, .slice none 0 0, .slice none 0 0]) rfl rfl) ?_
 intro b8
 refine zcp (cs' := #[.int .i64 n.ins, n.sv, n.av, n.ov]) (i := 0) (off := 0) (us := [.int .i64 n.ins, n.sv, n.av, n.ov]) rfl rfl rfl rfl rfl rfl rfl (zap rfl (zap o1n (zap o2n (zap o3n zce)))) rfl rfl rfl (ntQ (srQ ?_))
 refine zex 3 [2, 0, 1] rfl rfl (by decide) ?_
 refine zek [curE ghR4 a len cap, bigE ps, boxE b8 #[.int .i64 n.ins, n.sv, n.av, n.ov] 28, boxE b1 #[.int .i64 0, .slice none 0 0, .slice none 0 0, .slice none 0 0] 28] zcv ?_
 refine zai 1 rfl (hvQ rfl (zaz (cs := [.int .i64 n.ins, n.sv, n.av, n.ov]) rfl rfl rfl rfl rfl (zax 2 rfl 0 rfl)) ?_)
 refine hl_callM2 (R := (fun u_ p_ => ∃ is : List Int, p_ = bigE [curE ghR4 a len cap, rowE 3 1 u_ is.length (is.map (Value.int .i64))])) 0 rfl rfl rfl rfl rfl (fun L w hX hm => l16Classes_mut ghR4 a len cap z n _ _ _ hm hb (fun w9 h9 => hps w9 ((hX w9 h9).holds _ (zbs (l := [bigE ps, boxE b8 #[.int .i64 n.ins, n.sv, n.av, n.ov] 28, boxE b1 #[.int .i64 0, .slice none 0 0, .slice none 0 0, .slice none 0 0] 28]) (i := 0) rfl))) hn) ?_
 intro v9 p10 hR11
 obtain ⟨cs, rfl⟩ := hR11
 refine zcd (l' := [bigE [curE ghR4 a len cap, rowE 3 1 v9 cs.length (cs.map (Value.int .i64))], bigE ps, boxE b8 #[.int .i64 n.ins, n.sv, n.av, n.ov] 28, boxE b1 #[.int .i64 0, .slice none 0 0, .slice none 0 0, .slice none 0 0] 28]) rfl ?_
 refine zbf 1 rfl (zab ?_)
 refine hc_pick 4 [3, 2, 1, 0] rfl rfl (by decide) ?_
 refine zey [curE ghR4 a len cap, rowE 3 1 v9 cs.length (cs.map (Value.int .i64)), bigE ps, boxE b8 #[.int .i64 n.ins, n.sv, n.av, n.ov] 28, boxE b1 #[.int .i64 0, .slice none 0 0, .slice none 0 0, .slice none 0 0] 28] zcv ?_
 refine hc_pick 5 [3, 2, 1, 0, 4] rfl rfl (by decide) ?_
 refine hc_draw4 (l := [curE ghR4 a len cap, rowE 3 1 v9 cs.length (cs.map (Value.int .i64)), bigE ps, boxE b8 #[.int .i64 n.ins, n.sv, n.av, n.ov] 28]) rfl 10 [0, 1, 2, 3, 4, 5, 6, 7, 8, 9] (List.take 10 _) (List.drop 10 _) [[], [], [], [2], [], [4], [5], [3, 6], [1, 7], [0]] [some 14, some 15, some 16, some 17, some 18, some 19, some 20, some 21, some 22, none] (fun i_ vs_ v_ p_ => match i_ with | 0 => v_ = .agg #[.int .i64 n.ins, n.sv, n.av, n.ov] ∧ p_ = [] | 1 => v_ = v9 ∧ p_ = [] | 2 => v_ = v9 ∧ p_ = [] | 3 => v_ = .int .i64 (cs.length : Int) ∧ p_ = [] | 4 => v_ = .pointer (some ⟨b8, 0 + 1, none⟩) ∧ p_ = [] | 5 => v_ = n.sv ∧ p_ = [] | 6 => v_ = .int .i64 (n.ss.length : Int) ∧ p_ = [] | 7 => v_ = .int .i64 (min (cs.length : Int) (n.ss.length : Int)) ∧ p_ = [] | 8 => v_ = slV v9 0 (min (cs.length : Int) (n.ss.length : Int)).toNat 1 ∧ p_ = [] | 9 => p_ = [boxE b1 #[.int .i64 n.ins, n.sv, n.av, n.ov] 28] | _ => True) [[], [], [], [2], [], [4], [5], [3, 6], [1, 7], [0]] [none, none, none, none, none, none, none, none, none, some 11] [[boxE b1 #[.int .i64 0, .slice none 0 0, .slice none 0 0, .slice none 0 0] 28]] [0, 1, 2, 3, 4, 5, 6, 7, 8, 9] 11 (List.take_append_drop 10 _).symm (by kernel_rfl) (by kernel_rfl) (by kernel_rfl) rfl rfl ?_ ?_
 ·
  refine ⟨?_, ?_, ?_, ?_, ?_, ?_, ?_, ?_, ?_, ?_, trivial⟩
  ·
   intro vf pf hmu hR
   refine dq3Q [] [] rfl (zbu (zaq [5] rfl) (List.sublist_append_right _ _) ?_)
   exact zbq (zaz (cs := [.int .i64 n.ins, n.sv, n.av, n.ov]) rfl rfl rfl rfl rfl (zax 3 rfl 0 rfl))
  ·
   intro vf pf hmu hR
   refine dq3Q [] [] rfl (zbm (zaq [6] rfl) ?_)
   exact zbq (zaf rfl)
  ·
   intro vf pf hmu hR
   refine dq3Q [] [] rfl (zbm (zaq [6] rfl) ?_)
   exact zbq (zaf rfl)
  ·
   intro vf pf hmu hR
   have e2 := hR 2 (by decide)
   refine dq3Q [2] [2] rfl (zbu (sk 16 (congrArg some e2.1) (zag _)) (List.sublist_append_right _ _) ?_)
   exact zbq (lnQ rfl rfl rfl (zao 1 rfl))
  ·
   intro vf pf hmu hR
   refine dq3Q [] [] rfl (zbm (zaq [5] rfl) ?_)
   exact zbq (fdQ 1 rfl rfl rfl)
  ·
   intro vf pf hmu hR
   have e4 := hR 4 (by decide)
   refine dq3Q [4] [4] rfl (zbu (sk 18 (congrArg some e4.1) (zag _)) (List.sublist_append_right _ _) ?_)
   exact zbq (zae rfl rfl rfl (zac 3 rfl rfl))
  ·
   intro vf pf hmu hR
   have e5 := hR 5 (by decide)
   refine dq3Q [5] [5] rfl (zbu (sk 19 (congrArg some e5.1) (zag _)) (List.sublist_append_right _ _) ?_)
   exact zbq (lnQ rfl rfl rfl (fun w hm => (hps w (hm.holds _ (zbs (i := 2) rfl))).sq))
  ·
   intro vf pf hmu hR
   have e3 := hR 3 (by decide)
   have e6 := hR 6 (by decide)
   refine dq3Q [3, 6] [3, 6] rfl (zbm (sk 17 (congrArg some e3.1) (sk 20 (congrArg some e6.1) (zag _))) ?_)
   exact zbq (rv_min rfl rfl rfl)
  ·
   intro vf pf hmu hR
   have e1 := hR 1 (by decide)
   have e7 := hR 7 (by decide)
   refine dq3Q [1, 7] [1, 7] rfl (zbu (sk 15 (congrArg some e1.1) (sk 21 (congrArg some e7.1) (zag _))) (List.sublist_append_right _ _) ?_)
   exact zbq (rv_slH rfl Try.underlying26 rfl rfl rfl (zao 1 rfl) (by omega) (by omega))
  intro vf pf hmu hR
  have e0 := hR 0 (by decide)
  refine Or.inl ⟨rfl, ?_⟩
  show RunM _ _ _ (pf 11) (([0] : List Nat).flatMap pf ++ _) (envOf3 _ vf [0] ++ _) _ _
  have hmu0 : pf 11 = [boxE b1 #[.int .i64 0, .slice none 0 0, .slice none 0 0, .slice none 0 0] 28] := hmu 0 (show 0 < 1 by omega)
  rw [hmu0]
  exact zcu (sk 2 rfl (sk 14 (congrArg some e0.1) (zag _))) (by simp only [e0.2, fS] <;> rfl) (rm_mono (rm_storeBoxN (us := [.int .i64 n.ins, n.sv, n.av, n.ov]) (off := 0) 0 rfl rfl rfl rfl rfl rfl (zap rfl (zap o1n (zap o2n (zap o3n zce)))) rfl rfl) (fun v_ p_ h => by show p_ = [boxE b1 #[.int .i64 n.ins, n.sv, n.av, n.ov] 28]; exact h))
 intro vf pf hmu hR
 have e8 := hR 8 (by decide)
 have e9 : (pf 9) = [boxE b1 #[.int .i64 n.ins, n.sv, n.av, n.ov] 28] := hR 9 (by decide)
 have pE9 := e9
 have q0 := hR 0 (by decide)
 have q1 := hR 1 (by decide)
 have q2 := hR 2 (by decide)
 have q3 := hR 3 (by decide)
 have q4 := hR 4 (by decide)
 have q5 := hR 5 (by decide)
 have q6 := hR 6 (by decide)
 have q7 := hR 7 (by decide)
 have q8 := hR 8 (by decide)
 refine zcy (zcc [6, 5, 4, 3, 2, 0] _ (sk 22 (congrArg some e8.1) (zag _)) rfl) (by simp only [pE9, q0.2, q1.2, q2.2, q3.2, q4.2, q5.2, q6.2, q7.2, q8.2, fS] <;> rfl) ?_
 simp only [List.drop_succ_cons, List.drop_zero]
 refine zbf 1 rfl ?_
 refine zav (zcb 5 [4, 1, 0, 3, 2] rfl rfl (by decide) ?_)
 refine zdr 2 rfl ?_
 refine hq_know (fun w hm => (rdsW_slT (zcm (zdh (hm.holds _ (zbs (i := 0) rfl)) List.mem_cons_self)) (k := (min (cs.length : Int) (n.ss.length : Int)).toNat) (by omega)).one') (fun ocv => ?_)
 exact hq_retM (rs := [.cell 2 28, .tmp 3]) (vs := [.agg #[.int .i64 n.ins, n.sv, n.av, n.ov], slV v9 0 (min (cs.length : Int) (n.ss.length : Int)).toNat 1]) (post := [bigE [rowE 3 1 v9 cs.length (cs.map (Value.int .i64)), bigE ps]]) rfl ⟨⟨b1, 0, [.int .i64 n.ins, n.sv, n.av, n.ov], rfl, rfl, by kernel_rfl, by kernel_rfl, zax 1 rfl 0 rfl⟩, rfl, trivial⟩ rfl (slQ [0] rfl) ⟨n, _, cs.take (min (cs.length : Int) (n.ss.length : Int)).toNat, _, rfl, rfl, fun w hw => ⟨hps w (zdh hw (List.mem_cons_of_mem _ List.mem_cons_self)), rdsW_slT (zcm (zdh hw List.mem_cons_self)) (by omega)⟩, ⟨o1n, o2n, o3n⟩, ocv, hn, by have h9 := hn.s1; rw [List.length_take]; omega⟩
def tpK (k : Nat) (v : Value) : Value := match v with | .tuple xs => xs.getD k undef | _ => undef
theorem st0_eq (n : Nt) : stL n = n.ss.map Sq.it := by unfold stL strL; rw [List.take_length]
theorem agr_start {n : Nt} {cs : List Int} (h : HoldP n cs) : AgrC n cs (n.ss.map Sq.it) := fun i hi => by
  have hc := (h.cl.q.cl i hi).1
  have hj : (cs.getD i 0).toNat < n.ss.length := by omega
  have e := h.ini i hi
  rw [← st0_eq, st_at n hi, st_at n hj]; exact e
theorem agr_get {n : Nt} {cs st : List Int} (h : HoldP n cs) (hl : st.length = n.ss.length) (ha : AgrC n cs st) {j : Nat} (hj : j < cs.length) : getI st (j : Int) = getI st (cs.getD j 0) := by
  have hl2 := h.cl.q.len
  have hc := (h.cl.q.cl j (by omega)).1
  rw [show getI st (j : Int) = st.getD (j : Int).toNat 0 from if_pos ⟨by omega, by omega⟩, show getI st (cs.getD j 0) = st.getD (cs.getD j 0).toNat 0 from if_pos ⟨by omega, by omega⟩, Int.toNat_natCast]
  exact ha j (by omega)
theorem RegisterClassesL_ret (n : Nt) (w : World) (hr : RdsNt w n) (hn : NtOk n) : Calls Try.prog 12 #[n.agg] w (Ret w (fun u_ p_ => ∃ zs : List Int, p_ = [rowE 3 1 u_ n.ss.length (zs.map (Value.int .i64))])) :=
  (RegisterClasses_ret n w hr hn).mono fun e w' ⟨v, p, he, ⟨zs, hp, hl⟩, hm⟩ => ⟨v, p, he, ⟨zs, by rw [hp, hl]⟩, hm⟩
theorem l09MasksL_mut (g : Nat) (a : Option Addr) (len cap : Nat) (z : List Int) (m : Nat) (w0 : World) (l : List HP) (w : World) (hm0 : Mem w0 (curE g a len cap :: l) w) (hb : BRow .u8 w0 a len cap z) (hm12 : m ≤ 12) :
   Calls Try.prog 23 #[.pointer (some ⟨g, 0, none⟩), .int .i64 (m : Int)] w (fun e_ w_ => ∃ v_ p_, e_ = .returned v_ ∧ (fun u_ p_ => ∃ is : List Int, p_ = bigE [curE g a len cap, rowE 3 1 u_ is.length (is.map (Value.int .i64))] ∧ is.length = m) v_ p_ ∧ Mem w0 (p_ :: l) w_) := by
 refine zdq (N := 26) (args := [.pointer (some ⟨g, 0, none⟩), .int .i64 (m : Int)]) Try.func23 rfl rfl hm0 (zbe 1 rfl (srQ ?_))
 refine hrwQ rfl (zec (s := 1) rfl Try.underlying26 rfl) ?_
 intro g1
 refine zbf 1 rfl (zab (zbe 1 rfl (zau ?_)))
 refine lkQ3 (α := Nat) (β := Value) (γ := List Int) [0, 1, 4] rfl (fun k u is => (rowE 3 1 u is.length (is.map (Value.int .i64)) :: curE g a len cap :: l)) (fun k u is => [(5, u), (6, .int .i64 (k : Int))]) (fun k u is => k ≤ m ∧ is.length = k) (fun k u is => m - k) 0 _ [] ⟨Nat.zero_le _, rfl⟩ (saQ rfl) (.refl _) ?_
 intro k u is hi2
 obtain ⟨hk, hil⟩ := hi2
 refine zab (zab (reQ 2 rfl ?_))
 refine zbk rfl rfl rfl rfl rfl rfl (fun h3 => ?_) (fun h3 => ?_)
 ·
  refine ntQ (zan rfl (zch (sbQ (zab (reQ 1 rfl ?_)))))
  refine zbp (R := (fun u_ p_ => (∃ x_ : Int, u_ = .int .i64 x_ ∧ 0 ≤ x_ ∧ x_ < 256) ∧ p_ = curE g a len cap)) 1 rfl rfl rfl rfl rfl (fun l' w hm => zbn g a len cap z 256 _ _ _ hm hb (by constructor <;> omega)) ?_
  intro v4 p5 hR6
  obtain ⟨⟨xhR6, rfl, xhR60, xhR61⟩, rfl⟩ := hR6
  refine zcd (l' := (rowE 3 1 u is.length (is.map (Value.int .i64)) :: curE g a len cap :: l)) rfl ?_
  refine zbf 1 rfl (zab (zab (reQ 1 rfl ?_)))
  refine zbp (R := (fun u_ p_ => (∃ b : Bool, u_ = .bool b) ∧ p_ = curE g a len cap)) 1 rfl rfl rfl rfl rfl (fun l' w hm => zef hm hb (12) (by omega) (by omega)) ?_
  intro v7 p8 hR9
  obtain ⟨⟨xhR9, rfl⟩, rfl⟩ := hR9
  refine zcd (l' := (rowE 3 1 u is.length (is.map (Value.int .i64)) :: curE g a len cap :: l)) rfl ?_
  refine zbo (fun h10 => ?_) (fun h10 => ?_)
  ·
   refine ntQ (zan rfl (reQ 1 rfl ?_))
   refine hrwQ rfl (zay (z := .int .i64 0) (s := 1) (cs := ([-1, 1048575, 1048576, 9223372036854775807, -9223372036854775808].map (Value.int .i64))) rfl Try.underlying26 rfl (by decide) rfl (by kernel_rfl) rfl) ?_
   intro g11
   refine hl_callM2 (R := (fun u_ p_ => (∃ x : Int, u_ = .int .i64 x ∧ x ∈ ([-1, 1048575, 1048576, 9223372036854775807, -9223372036854775808] : List Int)) ∧ p_ = curE g a len cap)) 2 rfl rfl rfl rfl rfl (fun L w hX hm => pickIntL_mut g a len cap z (.slice (some ⟨g11, 0, none⟩) 5 5) ([-1, 1048575, 1048576, 9223372036854775807, -9223372036854775808] : List Int) _ _ _ hm hb (fun w hm => (zao (l := (rowE 3 1 (.slice (some ⟨g11, 0, none⟩) 5 5) 5 ([-1, 1048575, 1048576, 9223372036854775807, -9223372036854775808].map (Value.int .i64)) :: rowE 3 1 u is.length (is.map (Value.int .i64)) :: l)) 0 rfl) w (hX w hm)) (by decide)) ?_
   intro v12 p13 hR14
   obtain ⟨⟨xhR14, rfl, -⟩, rfl⟩ := hR14
   refine zcd (l' := (rowE 3 1 (.slice (some ⟨g11, 0, none⟩) 5 5) 5 ([-1, 1048575, 1048576, 9223372036854775807, -9223372036854775808].map (Value.int .i64)) :: rowE 3 1 u is.length (is.map (Value.int .i64)) :: curE g a len cap :: l)) rfl ?_
   refine zbf 1 rfl (reQ 2 rfl ?_)
   refine hrwQ rfl (zay (z := .int .i64 0) (s := 1) (cs := ([xhR14].map (Value.int .i64))) rfl Try.underlying26 rfl (by decide) rfl (by kernel_rfl) rfl) ?_
   intro g15
   refine zck (i := 2) (z := .int .i64 0) (bytes := 8) rfl rfl rfl rfl Try.underlying26 (by kernel_rfl) rfl rfl rfl rfl (zao 0 rfl) (zbv _) (by first | omega | (simp; done) | (simp; omega)) (zca is ([xhR14])) (zby is ([xhR14])) (fun _ => rfl) ?_
   intro v16
   refine enQ 1 rfl (zcj (reQ 1 rfl (hvQ rfl (vaQ rfl rfl rfl) (enQ 1 rfl ?_))))
   exact zbh (k + 1) v16 (is ++ ([xhR14])) ⟨by omega, by rw [List.length_append, List.length_singleton]; omega⟩ (by omega) (saQ rfl) (.cons _ (.cons _ (.refl _)))
  refine ntQ (zak rfl (zch (reQ 2 rfl ?_)))
  refine hrwQ rfl (zay (z := .int .i64 0) (s := 1) (cs := ([xhR6].map (Value.int .i64))) rfl Try.underlying26 rfl (by decide) rfl (by kernel_rfl) rfl) ?_
  intro g17
  refine zck (i := 1) (z := .int .i64 0) (bytes := 8) rfl rfl rfl rfl Try.underlying26 (by kernel_rfl) rfl rfl rfl rfl (zao 0 rfl) (zbv _) (by first | omega | (simp; done) | (simp; omega)) (zca is ([xhR6])) (zby is ([xhR6])) (fun _ => rfl) ?_
  intro v18
  refine enQ 1 rfl (zcj (reQ 1 rfl (hvQ rfl (vaQ rfl rfl rfl) (enQ 1 rfl ?_))))
  exact zbh (k + 1) v18 (is ++ ([xhR6])) ⟨by omega, by rw [List.length_append, List.length_singleton]; omega⟩ (by omega) (saQ rfl) (.cons _ (.refl _))
 refine ntQ (zak rfl ?_)
 refine zbb (zda ?_)
 refine zad (zas (zbe 2 rfl ?_))
 refine zav (zcb 2 [0, 1] rfl rfl (by decide) ?_)
 refine zdr 2 rfl ?_
 exact zed (rs := [.tmp 4]) (vs := [u]) rfl ⟨rfl, trivial⟩ rfl (fun w hm => ⟨_, bigE [curE g a len cap, rowE 3 1 u is.length (is.map (Value.int .i64))], rfl, ⟨is, rfl, by omega⟩, hm.sub (.refl _)⟩)
theorem DrawMasksL_ret (a : Option Addr) (len cap : Nat) (z : List Int) (w : World) (hb : BRow .u8 w a len cap z) (hlen : len ≤ 1048576) :
   Calls Try.prog 8 #[.slice a len cap] w (Ret w (fun u_ p_ => ∃ is : List Int, p_ = [rowE 3 1 u_ is.length (is.map (Value.int .i64))] ∧ is.length ≤ 12)) := by
 refine zba (N := 11) (args := [.slice a len cap]) Try.func8 rfl rfl (zbe 1 rfl (zab (reQ 1 rfl ?_)))
 refine hl_q rfl rfl rfl (zaj rfl rfl (fun w hm => new_ret (hb.below hm.bel) hlen)) ?_
 intro v1 p2 hR3
 obtain ⟨ghR3, rfl, rfl⟩ := hR3
 refine zbf 1 rfl (zab (reQ 2 rfl ?_))
 refine zbp (R := (fun u_ p_ => (∃ x_ : Int, u_ = .int .i64 x_ ∧ 0 ≤ x_ ∧ x_ < 12) ∧ p_ = curE ghR3 a len cap)) 0 rfl rfl rfl rfl rfl (fun l' w hm => zbn ghR3 a len cap z 12 _ _ _ hm hb (by constructor <;> omega)) ?_
 intro v4 p5 hR6
 obtain ⟨⟨xhR6, rfl, xhR60, xhR61⟩, rfl⟩ := hR6
 refine zcd (l' := [curE ghR3 a len cap]) rfl ?_
 refine hvQ rfl (vaQ rfl rfl rfl) (zbp (R := (fun u_ p_ => ∃ is : List Int, p_ = bigE [curE ghR3 a len cap, rowE 3 1 u_ is.length (is.map (Value.int .i64))] ∧ is.length = (1 + xhR6).toNat)) 0 rfl rfl rfl rfl rfl (fun l' w hm => (by have h9 := l09MasksL_mut ghR3 a len cap z (1 + xhR6).toNat _ _ _ hm hb (by omega); rw [Int.toNat_of_nonneg (by omega)] at h9; exact h9)) ?_)
 intro v7 p8 hR9
 obtain ⟨is, rfl, hil⟩ := hR9
 refine zcd (l' := [bigE [curE ghR3 a len cap, rowE 3 1 v7 is.length (is.map (Value.int .i64))]]) rfl ?_
 refine zbf 1 rfl ?_
 refine zav (zcb 1 [0] rfl rfl (by decide) ?_)
 refine hq_conv [curE ghR3 a len cap, rowE 3 1 v7 is.length (is.map (Value.int .i64))] zcv ?_
 exact hq_retM (rs := [.tmp 2]) (vs := [v7]) (post := [rowE 3 1 v7 is.length (is.map (Value.int .i64))]) rfl ⟨rfl, trivial⟩ rfl (slQ [1] rfl) ⟨is, rfl, by omega⟩
theorem lawsGetF_ans (xs : List Int) (x : Int) (v : Value) (w : World) (hv : RdsW w v 1 xs.length (xs.map (Value.int .i64))) :
   Calls Try.prog 10 #[v, .int .i64 x] w (Ans w (.int .i64 (getI xs x))) := by
 have hv9 := sml hv
 refine zba (N := 17) (args := [v, .int .i64 x]) Try.func10 rfl rfl (zbe 1 rfl (zab (zab (reQ 1 rfl ?_))))
 refine zbk rfl rfl rfl rfl rfl rfl (fun h1 => ?_) (fun h1 => ?_)
 ·
  refine zbf 6 rfl (zan rfl (zbe 1 rfl ?_))
  refine zav (zam ?_)
  exact zbi rfl rfl (by unfold getI; rw [if_neg (by omega)])
 refine zai 3 rfl (hvQ rfl (lnQ rfl rfl rfl (zaa hv)) ?_)
 refine hl_geq rfl rfl rfl rfl rfl rfl (fun h2 => ?_) (fun h2 => ?_)
 ·
  refine zbf 1 rfl (zan rfl (zbe 1 rfl ?_))
  refine zav (zam ?_)
  exact zbi rfl rfl (by unfold getI; rw [if_neg (by omega)])
 refine zbf 1 rfl (zak rfl (zch (zab (reQ 2 rfl (hvQ rfl (riQ 1 rfl rfl rfl rfl (zaa hv)) (hvQ rfl (lzQ rfl rfl rfl (zaa hv)) (zai 1 rfl (?_))))))))
 refine ntQ ?_
 exact zav (zbi rfl rfl (by unfold getI; rw [if_pos (by omega)]))
theorem walk_FnClassesSound (a0 : Option Addr) (len0 cap0 : Nat) (z0 : List Int) (w : World) (hbr : BRow .u8 w a0 len0 cap0 z0) :
   Calls Try.prog 3 #[.slice a0 len0 cap0] w (Ans w (.bool true)) := by
 refine zba (N := 82) (args := [.slice a0 len0 cap0]) Try.func3 rfl rfl (zbe 1 rfl (zab (zab (reQ 1 rfl ?_))))
 refine zee rfl (zaj rfl rfl (fun w hm => zat (ans_of (big_any a0 len0 cap0 w (hbr.len_le))))) (zbo (fun h1 => ?_) (fun h1 => ?_))
 ·
  have h1p := of_decide_eq_true h1
  refine ntQ (zan rfl (zbe 1 rfl ?_))
  refine zav (zam ?_)
  exact zbi rfl rfl rfl
 have h1p := of_decide_eq_false h1
 refine ntQ (zak rfl (zch (zab (reQ 1 rfl ?_))))
 refine hl_q rfl rfl rfl (zaj rfl rfl (fun w hm => DrawClasses_ret _ _ _ z0 w (hbr.below hm.bel) (by omega))) ?_
 intro v2 p3 hR4
 obtain ⟨n, ps, cs, cv, rfl, rfl, hps, ⟨o1n, o2n, o3n⟩, ocv, hn, hc12⟩ := hR4
 have hs1 := hn.s1
 refine zai 3 rfl (zea rfl (zcf (z := .agg #[.int .i64 0, .slice none 0 0, .slice none 0 0, .slice none 0 0]) rfl rfl) ?_)
 intro b5
 refine zcp (cs' := #[.int .i64 n.ins, n.sv, n.av, n.ov]) (i := 0) (off := 0) (us := [.int .i64 n.ins, n.sv, n.av, n.ov]) rfl rfl rfl rfl rfl rfl rfl (zap rfl (zap o1n (zap o2n (zap o3n zce)))) rfl rfl rfl (zbf 1 rfl (srQ (hvQ rfl (zaz (cs := [.int .i64 n.ins, n.sv, n.av, n.ov]) rfl rfl rfl rfl rfl (zax 0 rfl 0 rfl)) (zai 1 rfl ?_))))
 refine zee rfl (zaj rfl rfl (fun w hm => zat (specClassesHold_ans n cs _ w (hps w (hm.holds _ (zbs (i := 1) rfl))).1 hn (hps w (hm.holds _ (zbs (i := 1) rfl))).2))) (zbf 1 rfl (ssrQ (hvQ rfl (zaz (cs := [.int .i64 n.ins, n.sv, n.av, n.ov]) rfl rfl rfl rfl rfl (zax 0 rfl 0 rfl)) (zai 1 rfl ?_))))
 refine zee rfl (zaj rfl rfl (fun w hm => zat (implClassesHold_ans n cs _ w (hps w (hm.holds _ (zbs (i := 1) rfl))).1 hn (hps w (hm.holds _ (zbs (i := 1) rfl))).2))) (zai 1 rfl (hvQ rfl (rv_bneq (m := pB (HoldP n cs)) (n := pB (HoldP n cs)) rfl Try.underlying4 rfl rfl) ?_))
 refine zbo (fun h6 => absurd ((bne_self_eq_false _).symm.trans h6) (by decide)) (fun h6 => ?_)
 refine ntQ (zak rfl (zch (zab (reQ 1 rfl ?_))))
 refine hl_q rfl rfl rfl (zaj rfl rfl (fun w hm => DrawMasksL_ret _ _ _ z0 w (hbr.below hm.bel) (by omega))) ?_
 intro v7 p8 hR9
 obtain ⟨is, rfl, hi12⟩ := hR9
 refine zbf 1 rfl (srQ (hvQ rfl (zaz (cs := [.int .i64 n.ins, n.sv, n.av, n.ov]) rfl rfl rfl rfl rfl (zax 1 rfl 0 rfl)) ?_))
 refine hl_q rfl rfl rfl (zaj rfl rfl (fun w hm => implNetStart_ret n w (hps w (hm.holds _ (zbs (i := 2) rfl))).1 hn)) ?_
 intro v10 p11 hR12
 subst hR12
 refine zbf 1 rfl (zab (zbe 1 rfl (zau ?_)))
 refine lkQ3 (α := Nat) (β := List Int) (γ := Value) [0, 2, 3, 4, 5, 6, 13, 26] rfl (fun t st u => [rowE 3 1 u st.length (st.map (Value.int .i64)), rowE 3 1 v7 is.length (is.map (Value.int .i64)), boxE b5 #[.int .i64 n.ins, n.sv, n.av, n.ov] 28, bigE ps]) (fun t st u => [(7, u), (8, .int .i64 (t : Int))]) (fun t st u => t ≤ is.length ∧ StOk n st ∧ (HoldP n cs → AgrC n cs st)) (fun t st u => is.length - t) 0 (n.ss.map Sq.it) _ ⟨Nat.zero_le _, by rw [← st0_eq]; exact start_ok hn, fun h => agr_start h⟩ (saQ rfl) (pfQ rfl) ?_
 intro t st u hi13
 obtain ⟨ht, hso, hag⟩ := hi13
 have hsl := hso.len
 refine zab (zab (reQ 2 rfl (hvQ rfl (lnQ rfl rfl rfl (zao 1 rfl)) ?_)))
 refine zbk rfl rfl rfl rfl rfl rfl (fun h14 => ?_) (fun h14 => ?_)
 ·
  refine ntQ (zan rfl (zch (sbQ (ssrQ (enQ 1 rfl ?_)))))
  refine zas (zau ?_)
  refine lkQ1 (α := Nat) [0, 2, 3, 4, 5, 6, 7, 8, 13, 26, 34] rfl (fun j => [rowE 3 1 u st.length (st.map (Value.int .i64)), rowE 3 1 v7 is.length (is.map (Value.int .i64)), boxE b5 #[.int .i64 n.ins, n.sv, n.av, n.ov] 28, bigE ps]) (fun j => [(9, .int .i64 (j : Int))]) (fun j => j ≤ cs.length) (fun j => cs.length - j) 0 (Nat.zero_le _) (saQ rfl) (pfQ rfl) ?_
  intro j hi15
  have hj := hi15
  refine zab (zab (reQ 2 rfl ?_))
  refine hvQ rfl (lnQ rfl rfl rfl (fun w hm => (hps w (hm.holds _ (zbs (i := 3) rfl))).2)) (zbk rfl rfl rfl rfl rfl rfl (fun h16 => ?_) (fun h16 => ?_))
  ·
   refine zai 3 rfl (zbo (fun h17 => ?_) (fun h17 => ?_))
   ·
    have h17p := of_pB h17
    refine ntQ (zan rfl (zch (sbQ (zab ?_))))
    have hgj := agr_get (by assumption) hsl (hag (by assumption)) (show j < cs.length by omega)
    have hb18 : ((getI st (j : Int)) != (getI st (cs.getD j 0))) = false := Bool.eq_false_iff.2 (fun h => bne_iff_ne.1 h (by omega))
    refine zbd 10 [[], [], [0, 1], [], [], [], [4, 5], [6], [3, 7], [2, 8]] [46, 47, 48, 49, 50, 51, 52, 53, 54, 55] [u, .int .i64 (j : Int), .int .i64 (getI st (j : Int)), u, cv, .int .i64 (j : Int), elP cv (((j : Int)).toNat * 1), .int .i64 (cs.getD j 0), .int .i64 (getI st (cs.getD j 0)), .bool false] (by kernel_rfl) rfl ?_ ?_
    ·
     exact ⟨iaQ rfl (zaf rfl) rfl, iaQ rfl (zaf rfl) rfl, .inl ⟨rfl, zaj (by kernel_rfl) rfl (fun w hm => zat (lawsGetF_ans st (j : Int) _ w ((zao 0 rfl) w hm)))⟩, iaQ rfl (zaf rfl) rfl, iaQ rfl (zaf rfl) rfl, iaQ rfl (zaf rfl) rfl, iaQ rfl (riQ 1 rfl rfl rfl rfl (fun w hm => (hps w (hm.holds _ (zbs (i := 3) rfl))).2)) rfl, iaQ rfl (liQ rfl rfl rfl (fun w hm => (hps w (hm.holds _ (zbs (i := 3) rfl))).2)) rfl, .inl ⟨rfl, zaj rfl rfl (fun w hm => zat (lawsGetF_ans st (cs.getD j 0) _ w ((zao 0 rfl) w hm)))⟩, .inl ⟨rfl, zbx (zbl rfl rfl rfl rfl) hb18⟩, trivial⟩
    simp only [List.drop_succ_cons, List.drop_zero]
    refine ntQ (fsQ rfl (zcj (reQ 1 rfl (hvQ rfl (vaQ rfl rfl rfl) (enQ 1 rfl ?_)))))
    exact zbr (j + 1) (by omega) (by omega) (saQ rfl) (pfQ rfl)
   have h17p := of_pBn h17
   refine ntQ (zak rfl ?_)
   refine zbb (zda ?_)
   refine zad (zas (zab ?_))
   refine hc_draw rfl 11 [0, 1, 2, 3, 4, 5, 6, 7, 8, 9, 10] (List.take 11 _) (List.drop 11 _) [[], [], [], [], [2, 3], [4], [0, 1, 5], [6], [6, 7], [6, 7], [6, 8]] [57, 58, 59, 60, 61, 62, 63, 56, 64, 65, 10] (fun i_ vs_ v_ p_ => match i_ with | 0 => v_ = .agg #[.int .i64 n.ins, n.sv, n.av, n.ov] ∧ p_ = [] | 1 => v_ = u ∧ p_ = [] | 2 => v_ = v7 ∧ p_ = [] | 3 => v_ = .int .i64 (t : Int) ∧ p_ = [] | 4 => v_ = elP v7 (((t : Int)).toNat * 1) ∧ p_ = [] | 5 => v_ = .int .i64 (is.getD t 0) ∧ p_ = [] | 6 => (fun u_ p_ => ∃ (nv : Value) (x9 : Int), u_ = .tuple #[nv, .int .i64 x9] ∧ p_ = [rowE 3 1 nv (nxL n st (is.getD t 0) n.ss.length).length ((nxL n st (is.getD t 0) n.ss.length).map (Value.int .i64))]) v_ p_ | 7 => v_ = .tuple #[(tpK 0 (List.getD vs_ 0 undef)), .int .i64 (intOf_o (tpK 1 (List.getD vs_ 0 undef)))] ∧ p_ = [] | 8 => v_ = (tpK 0 (List.getD vs_ 0 undef)) ∧ p_ = [] | 9 => v_ = .int .i64 (intOf_o (tpK 1 (List.getD vs_ 0 undef))) ∧ p_ = [] | 10 => v_ = (tpK 0 (List.getD vs_ 0 undef)) ∧ p_ = [] | _ => True) (List.take_append_drop 11 _).symm (by kernel_rfl) (by kernel_rfl) rfl rfl ?_ ?_
   ·
    refine ⟨?_, ?_, ?_, ?_, ?_, ?_, ?_, ?_, ?_, ?_, ?_, trivial⟩
    ·
     intro vf pf hR
     exact olQ rfl (zaq [3] rfl) (zbq (zaz (cs := [.int .i64 n.ins, n.sv, n.av, n.ov]) rfl rfl rfl rfl rfl (zax 2 rfl 0 rfl)))
    ·
     intro vf pf hR
     exact ovQ rfl (zaq [7] rfl) (zbq (zaf rfl))
    ·
     intro vf pf hR
     exact ovQ rfl (zaq [6] rfl) (zbq (zaf rfl))
    ·
     intro vf pf hR
     exact ovQ rfl (zaq [8] rfl) (zbq (zaf rfl))
    ·
     intro vf pf hR
     have e2 := hR 2 (by decide)
     have e3 := hR 3 (by decide)
     exact olQ rfl (sk 59 (congrArg some e2.1) (sk 60 (congrArg some e3.1) (zag _))) (zbq (riQ 1 rfl rfl rfl rfl (zao 1 rfl)))
    ·
     intro vf pf hR
     have e4 := hR 4 (by decide)
     exact olQ rfl (sk 61 (congrArg some e4.1) (zag _)) (zbq (liQ rfl rfl rfl (zao 1 rfl)))
    ·
     intro vf pf hR
     have e0 := hR 0 (by decide)
     have e1 := hR 1 (by decide)
     have e5 := hR 5 (by decide)
     exact olQ rfl (sk 57 (congrArg some e0.1) (sk 58 (congrArg some e1.1) (sk 62 (congrArg some e5.1) (zag _)))) (zaj rfl rfl (fun w hm => NetStep_ret n st _ (is.getD t 0) w (hps w (hm.holds _ (zbs (i := 3) rfl))).1 hn ((zao 0 rfl) w hm) hso))
    ·
     intro vf pf hR
     have e6 : (fun u_ p_ => ∃ (nv : Value) (x9 : Int), u_ = .tuple #[nv, .int .i64 x9] ∧ p_ = [rowE 3 1 nv (nxL n st (is.getD t 0) n.ss.length).length ((nxL n st (is.getD t 0) n.ss.length).map (Value.int .i64))]) (vf 6) (pf 6) := hR 6 (by decide)
     obtain ⟨v19, vE6⟩ : ∃ x, vf 6 = x := ⟨_, rfl⟩
     obtain ⟨p20, pE6⟩ : ∃ x, pf 6 = x := ⟨_, rfl⟩
     have hR21 := e6
     rw [vE6, pE6] at hR21
     obtain ⟨nvhR21, xohR21, rfl, rfl⟩ := hR21
     refine Or.inl ⟨rfl, ?_⟩
     exact zbt (sk 63 (congrArg some vE6) (zag _)) (by simp only [pE6, vE6, fS] <;> rfl) (zbz (zbq (zaf rfl)) (fun _ _ h => ⟨h.1.trans (by show _ = (.tuple #[(tpK 0 (vf 6)), .int .i64 (intOf_o (tpK 1 (vf 6)))] : Value); first | (rw [vE6]; done) | (rw [vE6]; rfl)), h.2⟩))
    ·
     intro vf pf hR
     have e6 : (fun u_ p_ => ∃ (nv : Value) (x9 : Int), u_ = .tuple #[nv, .int .i64 x9] ∧ p_ = [rowE 3 1 nv (nxL n st (is.getD t 0) n.ss.length).length ((nxL n st (is.getD t 0) n.ss.length).map (Value.int .i64))]) (vf 6) (pf 6) := hR 6 (by decide)
     obtain ⟨v19, vE6⟩ : ∃ x, vf 6 = x := ⟨_, rfl⟩
     obtain ⟨p20, pE6⟩ : ∃ x, pf 6 = x := ⟨_, rfl⟩
     have hR21 := e6
     rw [vE6, pE6] at hR21
     obtain ⟨nvhR21, xohR21, rfl, rfl⟩ := hR21
     have e7 : (vf 7) = .tuple #[(tpK 0 (vf 6)), .int .i64 (intOf_o (tpK 1 (vf 6)))] ∧ (pf 7) = [] := hR 7 (by decide)
     rw [vE6] at e7
     refine Or.inl ⟨rfl, ?_⟩
     exact zbt (sk 56 (congrArg some e7.1) (zag _)) (by simp only [pE6, vE6, e7.2, fS] <;> rfl) (zbz (zbq (zaf rfl)) (fun _ _ h => ⟨h.1.trans (by show _ = ((tpK 0 (vf 6)) : Value); first | (rw [vE6]; done) | (rw [vE6]; rfl)), h.2⟩))
    ·
     intro vf pf hR
     have e6 : (fun u_ p_ => ∃ (nv : Value) (x9 : Int), u_ = .tuple #[nv, .int .i64 x9] ∧ p_ = [rowE 3 1 nv (nxL n st (is.getD t 0) n.ss.length).length ((nxL n st (is.getD t 0) n.ss.length).map (Value.int .i64))]) (vf 6) (pf 6) := hR 6 (by decide)
     obtain ⟨v19, vE6⟩ : ∃ x, vf 6 = x := ⟨_, rfl⟩
     obtain ⟨p20, pE6⟩ : ∃ x, pf 6 = x := ⟨_, rfl⟩
     have hR21 := e6
     rw [vE6, pE6] at hR21
     obtain ⟨nvhR21, xohR21, rfl, rfl⟩ := hR21
     have e7 : (vf 7) = .tuple #[(tpK 0 (vf 6)), .int .i64 (intOf_o (tpK 1 (vf 6)))] ∧ (pf 7) = [] := hR 7 (by decide)
     rw [vE6] at e7
     refine Or.inl ⟨rfl, ?_⟩
     exact zbt (sk 56 (congrArg some e7.1) (zag _)) (by simp only [pE6, vE6, e7.2, fS] <;> rfl) (zbz (zbq (zaf rfl)) (fun _ _ h => ⟨h.1.trans (by show _ = (.int .i64 (intOf_o (tpK 1 (vf 6))) : Value); first | (rw [vE6]; done) | (rw [vE6]; rfl)), h.2⟩))
    intro vf pf hR
    have e6 : (fun u_ p_ => ∃ (nv : Value) (x9 : Int), u_ = .tuple #[nv, .int .i64 x9] ∧ p_ = [rowE 3 1 nv (nxL n st (is.getD t 0) n.ss.length).length ((nxL n st (is.getD t 0) n.ss.length).map (Value.int .i64))]) (vf 6) (pf 6) := hR 6 (by decide)
    obtain ⟨v19, vE6⟩ : ∃ x, vf 6 = x := ⟨_, rfl⟩
    obtain ⟨p20, pE6⟩ : ∃ x, pf 6 = x := ⟨_, rfl⟩
    have hR21 := e6
    rw [vE6, pE6] at hR21
    obtain ⟨nvhR21, xohR21, rfl, rfl⟩ := hR21
    have e8 : (vf 8) = (tpK 0 (vf 6)) ∧ (pf 8) = [] := hR 8 (by decide)
    rw [vE6] at e8
    refine Or.inl ⟨rfl, ?_⟩
    exact zbt (sk 64 (congrArg some e8.1) (zag _)) (by simp only [pE6, vE6, e8.2, fS] <;> rfl) (zbz (zbq (zaf rfl)) (fun _ _ h => ⟨h.1.trans (by show _ = ((tpK 0 (vf 6)) : Value); first | (rw [vE6]; done) | (rw [vE6]; rfl)), h.2⟩))
   intro vf pf hR
   have e6 : (fun u_ p_ => ∃ (nv : Value) (x9 : Int), u_ = .tuple #[nv, .int .i64 x9] ∧ p_ = [rowE 3 1 nv (nxL n st (is.getD t 0) n.ss.length).length ((nxL n st (is.getD t 0) n.ss.length).map (Value.int .i64))]) (vf 6) (pf 6) := hR 6 (by decide)
   obtain ⟨v19, vE6⟩ : ∃ x, vf 6 = x := ⟨_, rfl⟩
   obtain ⟨p20, pE6⟩ : ∃ x, pf 6 = x := ⟨_, rfl⟩
   have hR21 := e6
   rw [vE6, pE6] at hR21
   obtain ⟨nvhR21, xohR21, rfl, rfl⟩ := hR21
   have e9 : (vf 9) = .int .i64 (intOf_o (tpK 1 (vf 6))) ∧ (pf 9) = [] := hR 9 (by decide)
   rw [vE6] at e9
   have e10 : (vf 10) = (tpK 0 (vf 6)) ∧ (pf 10) = [] := hR 10 (by decide)
   rw [vE6] at e10
   have q0 := hR 0 (by decide)
   have q1 := hR 1 (by decide)
   have q2 := hR 2 (by decide)
   have q3 := hR 3 (by decide)
   have q4 := hR 4 (by decide)
   have q5 := hR 5 (by decide)
   have q7 := hR 7 (by decide)
   have q8 := hR 8 (by decide)
   have q9 := hR 9 (by decide)
   have q10 := hR 10 (by decide)
   refine zcy (zcc [9, 8, 7, 6, 5, 4, 3, 2, 0] _ (sk 10 (congrArg some e10.1) (zcc [43, 34, 26, 13] _ (sk 65 (congrArg some e9.1) (zag _)) rfl)) rfl) (by simp only [pE6, vE6, q0.2, q1.2, q2.2, q3.2, q4.2, q5.2, q7.2, q8.2, q9.2, q10.2, fS] <;> rfl) ?_
   simp only [List.drop_succ_cons, List.drop_zero]
   refine zbf 1 rfl (zar (enQ 2 rfl (zcj (reQ 1 rfl (hvQ rfl (vaQ rfl rfl rfl) (zai 1 rfl ?_))))))
   exact zbw (zbh (t + 1) (nxL n st (is.getD t 0) n.ss.length) nvhR21 ⟨by omega, nx_ok hn hso _, fun hp => hp.step hn hso.len (hag hp) (fun k hk h0 => nx_flop hn hso _ hk h0)⟩ (by omega) (saQ rfl) (slQ [0, 1, 0, 0] rfl))
  refine zbf 3 rfl (zak rfl ?_)
  refine zbb (zda ?_)
  refine zad (zas (zab ?_))
  refine hc_draw rfl 11 [0, 1, 2, 3, 4, 5, 6, 7, 8, 9, 10] (List.take 11 _) (List.drop 11 _) [[], [], [], [], [2, 3], [4], [0, 1, 5], [6], [6, 7], [6, 7], [6, 8]] [57, 58, 59, 60, 61, 62, 63, 56, 64, 65, 10] (fun i_ vs_ v_ p_ => match i_ with | 0 => v_ = .agg #[.int .i64 n.ins, n.sv, n.av, n.ov] ∧ p_ = [] | 1 => v_ = u ∧ p_ = [] | 2 => v_ = v7 ∧ p_ = [] | 3 => v_ = .int .i64 (t : Int) ∧ p_ = [] | 4 => v_ = elP v7 (((t : Int)).toNat * 1) ∧ p_ = [] | 5 => v_ = .int .i64 (is.getD t 0) ∧ p_ = [] | 6 => (fun u_ p_ => ∃ (nv : Value) (x9 : Int), u_ = .tuple #[nv, .int .i64 x9] ∧ p_ = [rowE 3 1 nv (nxL n st (is.getD t 0) n.ss.length).length ((nxL n st (is.getD t 0) n.ss.length).map (Value.int .i64))]) v_ p_ | 7 => v_ = .tuple #[(tpK 0 (List.getD vs_ 0 undef)), .int .i64 (intOf_o (tpK 1 (List.getD vs_ 0 undef)))] ∧ p_ = [] | 8 => v_ = (tpK 0 (List.getD vs_ 0 undef)) ∧ p_ = [] | 9 => v_ = .int .i64 (intOf_o (tpK 1 (List.getD vs_ 0 undef))) ∧ p_ = [] | 10 => v_ = (tpK 0 (List.getD vs_ 0 undef)) ∧ p_ = [] | _ => True) (List.take_append_drop 11 _).symm (by kernel_rfl) (by kernel_rfl) rfl rfl ?_ ?_
  ·
   refine ⟨?_, ?_, ?_, ?_, ?_, ?_, ?_, ?_, ?_, ?_, ?_, trivial⟩
   ·
    intro vf pf hR
    exact olQ rfl (zaq [3] rfl) (zbq (zaz (cs := [.int .i64 n.ins, n.sv, n.av, n.ov]) rfl rfl rfl rfl rfl (zax 2 rfl 0 rfl)))
   ·
    intro vf pf hR
    exact ovQ rfl (zaq [7] rfl) (zbq (zaf rfl))
   ·
    intro vf pf hR
    exact ovQ rfl (zaq [6] rfl) (zbq (zaf rfl))
   ·
    intro vf pf hR
    exact ovQ rfl (zaq [8] rfl) (zbq (zaf rfl))
   ·
    intro vf pf hR
    have e2 := hR 2 (by decide)
    have e3 := hR 3 (by decide)
    exact olQ rfl (sk 59 (congrArg some e2.1) (sk 60 (congrArg some e3.1) (zag _))) (zbq (riQ 1 rfl rfl rfl rfl (zao 1 rfl)))
   ·
    intro vf pf hR
    have e4 := hR 4 (by decide)
    exact olQ rfl (sk 61 (congrArg some e4.1) (zag _)) (zbq (liQ rfl rfl rfl (zao 1 rfl)))
   ·
    intro vf pf hR
    have e0 := hR 0 (by decide)
    have e1 := hR 1 (by decide)
    have e5 := hR 5 (by decide)
    exact olQ rfl (sk 57 (congrArg some e0.1) (sk 58 (congrArg some e1.1) (sk 62 (congrArg some e5.1) (zag _)))) (zaj rfl rfl (fun w hm => NetStep_ret n st _ (is.getD t 0) w (hps w (hm.holds _ (zbs (i := 3) rfl))).1 hn ((zao 0 rfl) w hm) hso))
   ·
    intro vf pf hR
    have e6 : (fun u_ p_ => ∃ (nv : Value) (x9 : Int), u_ = .tuple #[nv, .int .i64 x9] ∧ p_ = [rowE 3 1 nv (nxL n st (is.getD t 0) n.ss.length).length ((nxL n st (is.getD t 0) n.ss.length).map (Value.int .i64))]) (vf 6) (pf 6) := hR 6 (by decide)
    obtain ⟨v22, vE6⟩ : ∃ x, vf 6 = x := ⟨_, rfl⟩
    obtain ⟨p23, pE6⟩ : ∃ x, pf 6 = x := ⟨_, rfl⟩
    have hR24 := e6
    rw [vE6, pE6] at hR24
    obtain ⟨nvhR24, xohR24, rfl, rfl⟩ := hR24
    refine Or.inl ⟨rfl, ?_⟩
    exact zbt (sk 63 (congrArg some vE6) (zag _)) (by simp only [pE6, vE6, fS] <;> rfl) (zbz (zbq (zaf rfl)) (fun _ _ h => ⟨h.1.trans (by show _ = (.tuple #[(tpK 0 (vf 6)), .int .i64 (intOf_o (tpK 1 (vf 6)))] : Value); first | (rw [vE6]; done) | (rw [vE6]; rfl)), h.2⟩))
   ·
    intro vf pf hR
    have e6 : (fun u_ p_ => ∃ (nv : Value) (x9 : Int), u_ = .tuple #[nv, .int .i64 x9] ∧ p_ = [rowE 3 1 nv (nxL n st (is.getD t 0) n.ss.length).length ((nxL n st (is.getD t 0) n.ss.length).map (Value.int .i64))]) (vf 6) (pf 6) := hR 6 (by decide)
    obtain ⟨v22, vE6⟩ : ∃ x, vf 6 = x := ⟨_, rfl⟩
    obtain ⟨p23, pE6⟩ : ∃ x, pf 6 = x := ⟨_, rfl⟩
    have hR24 := e6
    rw [vE6, pE6] at hR24
    obtain ⟨nvhR24, xohR24, rfl, rfl⟩ := hR24
    have e7 : (vf 7) = .tuple #[(tpK 0 (vf 6)), .int .i64 (intOf_o (tpK 1 (vf 6)))] ∧ (pf 7) = [] := hR 7 (by decide)
    rw [vE6] at e7
    refine Or.inl ⟨rfl, ?_⟩
    exact zbt (sk 56 (congrArg some e7.1) (zag _)) (by simp only [pE6, vE6, e7.2, fS] <;> rfl) (zbz (zbq (zaf rfl)) (fun _ _ h => ⟨h.1.trans (by show _ = ((tpK 0 (vf 6)) : Value); first | (rw [vE6]; done) | (rw [vE6]; rfl)), h.2⟩))
   ·
    intro vf pf hR
    have e6 : (fun u_ p_ => ∃ (nv : Value) (x9 : Int), u_ = .tuple #[nv, .int .i64 x9] ∧ p_ = [rowE 3 1 nv (nxL n st (is.getD t 0) n.ss.length).length ((nxL n st (is.getD t 0) n.ss.length).map (Value.int .i64))]) (vf 6) (pf 6) := hR 6 (by decide)
    obtain ⟨v22, vE6⟩ : ∃ x, vf 6 = x := ⟨_, rfl⟩
    obtain ⟨p23, pE6⟩ : ∃ x, pf 6 = x := ⟨_, rfl⟩
    have hR24 := e6
    rw [vE6, pE6] at hR24
    obtain ⟨nvhR24, xohR24, rfl, rfl⟩ := hR24
    have e7 : (vf 7) = .tuple #[(tpK 0 (vf 6)), .int .i64 (intOf_o (tpK 1 (vf 6)))] ∧ (pf 7) = [] := hR 7 (by decide)
    rw [vE6] at e7
    refine Or.inl ⟨rfl, ?_⟩
    exact zbt (sk 56 (congrArg some e7.1) (zag _)) (by simp only [pE6, vE6, e7.2, fS] <;> rfl) (zbz (zbq (zaf rfl)) (fun _ _ h => ⟨h.1.trans (by show _ = (.int .i64 (intOf_o (tpK 1 (vf 6))) : Value); first | (rw [vE6]; done) | (rw [vE6]; rfl)), h.2⟩))
   intro vf pf hR
   have e6 : (fun u_ p_ => ∃ (nv : Value) (x9 : Int), u_ = .tuple #[nv, .int .i64 x9] ∧ p_ = [rowE 3 1 nv (nxL n st (is.getD t 0) n.ss.length).length ((nxL n st (is.getD t 0) n.ss.length).map (Value.int .i64))]) (vf 6) (pf 6) := hR 6 (by decide)
   obtain ⟨v22, vE6⟩ : ∃ x, vf 6 = x := ⟨_, rfl⟩
   obtain ⟨p23, pE6⟩ : ∃ x, pf 6 = x := ⟨_, rfl⟩
   have hR24 := e6
   rw [vE6, pE6] at hR24
   obtain ⟨nvhR24, xohR24, rfl, rfl⟩ := hR24
   have e8 : (vf 8) = (tpK 0 (vf 6)) ∧ (pf 8) = [] := hR 8 (by decide)
   rw [vE6] at e8
   refine Or.inl ⟨rfl, ?_⟩
   exact zbt (sk 64 (congrArg some e8.1) (zag _)) (by simp only [pE6, vE6, e8.2, fS] <;> rfl) (zbz (zbq (zaf rfl)) (fun _ _ h => ⟨h.1.trans (by show _ = ((tpK 0 (vf 6)) : Value); first | (rw [vE6]; done) | (rw [vE6]; rfl)), h.2⟩))
  intro vf pf hR
  have e6 : (fun u_ p_ => ∃ (nv : Value) (x9 : Int), u_ = .tuple #[nv, .int .i64 x9] ∧ p_ = [rowE 3 1 nv (nxL n st (is.getD t 0) n.ss.length).length ((nxL n st (is.getD t 0) n.ss.length).map (Value.int .i64))]) (vf 6) (pf 6) := hR 6 (by decide)
  obtain ⟨v22, vE6⟩ : ∃ x, vf 6 = x := ⟨_, rfl⟩
  obtain ⟨p23, pE6⟩ : ∃ x, pf 6 = x := ⟨_, rfl⟩
  have hR24 := e6
  rw [vE6, pE6] at hR24
  obtain ⟨nvhR24, xohR24, rfl, rfl⟩ := hR24
  have e9 : (vf 9) = .int .i64 (intOf_o (tpK 1 (vf 6))) ∧ (pf 9) = [] := hR 9 (by decide)
  rw [vE6] at e9
  have e10 : (vf 10) = (tpK 0 (vf 6)) ∧ (pf 10) = [] := hR 10 (by decide)
  rw [vE6] at e10
  have q0 := hR 0 (by decide)
  have q1 := hR 1 (by decide)
  have q2 := hR 2 (by decide)
  have q3 := hR 3 (by decide)
  have q4 := hR 4 (by decide)
  have q5 := hR 5 (by decide)
  have q7 := hR 7 (by decide)
  have q8 := hR 8 (by decide)
  have q9 := hR 9 (by decide)
  have q10 := hR 10 (by decide)
  refine zcy (zcc [9, 8, 7, 6, 5, 4, 3, 2, 0] _ (sk 10 (congrArg some e10.1) (zcc [43, 34, 26, 13] _ (sk 65 (congrArg some e9.1) (zag _)) rfl)) rfl) (by simp only [pE6, vE6, q0.2, q1.2, q2.2, q3.2, q4.2, q5.2, q7.2, q8.2, q9.2, q10.2, fS] <;> rfl) ?_
  simp only [List.drop_succ_cons, List.drop_zero]
  refine zbf 1 rfl (zar (enQ 2 rfl (zcj (reQ 1 rfl (hvQ rfl (vaQ rfl rfl rfl) (zai 1 rfl ?_))))))
  exact zbw (zbh (t + 1) (nxL n st (is.getD t 0) n.ss.length) nvhR24 ⟨by omega, nx_ok hn hso _, fun hp => hp.step hn hso.len (hag hp) (fun k hk h0 => nx_flop hn hso _ hk h0)⟩ (by omega) (saQ rfl) (slQ [0, 1, 0, 0] rfl))
 refine ntQ (zak rfl ?_)
 refine zbb (zda ?_)
 refine zad (zas (zab ?_))
 have hb25 : ((st.length : Int) == (n.ss.length : Int)) = true := beq_iff_eq.2 (by omega)
 have hb29 : ((n.ss.length : Int) == (n.ss.length : Int)) = true := beq_iff_eq.2 (by omega)
 refine hc_draw rfl 15 [0, 1, 2, 3, 4, 5, 6, 7, 8, 9, 10, 11, 12, 13, 14] (List.take 15 _) (List.drop 15 _) [[], [0], [], [2], [3], [1, 4], [5], [6], [6, 7], [6, 8], [6], [6, 10], [6, 11], [6, 8, 9, 12], [6, 13]] [67, 68, 69, 70, 71, 72, 73, 74, 75, 76, 77, 78, 79, 80, 81] (fun i_ vs_ v_ p_ => match i_ with | 0 => v_ = u ∧ p_ = [] | 1 => v_ = .int .i64 (st.length : Int) ∧ p_ = [] | 2 => v_ = .pointer (some ⟨b5, 0 + 1, none⟩) ∧ p_ = [] | 3 => v_ = n.sv ∧ p_ = [] | 4 => v_ = .int .i64 (n.ss.length : Int) ∧ p_ = [] | 5 => v_ = .bool true ∧ p_ = [] | 6 => v_ = .bool true ∧ p_ = [] | 7 => v_ = .agg #[.int .i64 n.ins, n.sv, n.av, n.ov] ∧ p_ = [] | 8 => (fun u_ p_ => ∃ zs : List Int, p_ = [rowE 3 1 u_ n.ss.length (zs.map (Value.int .i64))]) v_ p_ | 9 => v_ = .int .i64 (n.ss.length : Int) ∧ p_ = [] | 10 => v_ = .pointer (some ⟨b5, 0 + 1, none⟩) ∧ p_ = [] | 11 => v_ = n.sv ∧ p_ = [] | 12 => v_ = .int .i64 (n.ss.length : Int) ∧ p_ = [] | 13 => v_ = .bool true ∧ p_ = [] | 14 => v_ = .bool true ∧ p_ = [] | _ => True) (List.take_append_drop 15 _).symm (by kernel_rfl) (by kernel_rfl) rfl rfl ?_ ?_
 ·
  refine ⟨?_, ?_, ?_, ?_, ?_, ?_, ?_, ?_, ?_, ?_, ?_, ?_, ?_, ?_, ?_, trivial⟩
  ·
   intro vf pf hR
   exact ovQ rfl (zaq [7] rfl) (zbq (zaf rfl))
  ·
   intro vf pf hR
   have e0 := hR 0 (by decide)
   exact olQ rfl (sk 67 (congrArg some e0.1) (zag _)) (zbq (lnQ rfl rfl rfl (zao 0 rfl)))
  ·
   intro vf pf hR
   exact ovQ rfl (zaq [3] rfl) (zbq (fdQ 1 rfl rfl rfl))
  ·
   intro vf pf hR
   have e2 := hR 2 (by decide)
   exact olQ rfl (sk 69 (congrArg some e2.1) (zag _)) (zbq (zae rfl rfl rfl (zac 2 rfl rfl)))
  ·
   intro vf pf hR
   have e3 := hR 3 (by decide)
   exact olQ rfl (sk 70 (congrArg some e3.1) (zag _)) (zbq (lnQ rfl rfl rfl (fun w hm => (hps w (hm.holds _ (zbs (i := 3) rfl))).1.sq)))
  ·
   intro vf pf hR
   have e1 := hR 1 (by decide)
   have e4 := hR 4 (by decide)
   exact ovQ rfl (sk 68 (congrArg some e1.1) (sk 71 (congrArg some e4.1) (zag _))) (zbz (zbq (zbl rfl rfl rfl rfl)) (fun _ _ h => ⟨h.1.trans (congrArg Value.bool hb25), h.2⟩))
  ·
   intro vf pf hR
   have e5 := hR 5 (by decide)
   exact ovQ rfl (sk 72 (congrArg some e5.1) (zag _)) (zbq (zaf rfl))
  ·
   intro vf pf hR
   have e6 := hR 6 (by decide)
   refine Or.inl ⟨want_of (congrArg some e6.1) rfl, ?_⟩
   exact zbu (zaq [3] rfl) (List.sublist_append_right _ _) (zbq (zaz (cs := [.int .i64 n.ins, n.sv, n.av, n.ov]) rfl rfl rfl rfl rfl (zax 2 rfl 0 rfl)))
  ·
   intro vf pf hR
   have e6 := hR 6 (by decide)
   have e7 := hR 7 (by decide)
   refine Or.inl ⟨want_of (congrArg some e6.1) rfl, ?_⟩
   exact zbu (sk 74 (congrArg some e7.1) (zag _)) (List.sublist_append_right _ _) (zaj rfl rfl (fun w hm => RegisterClassesL_ret n w (hps w (hm.holds _ (zbs (i := 3) rfl))).1 hn))
  ·
   intro vf pf hR
   have e6 := hR 6 (by decide)
   have e8 : (fun u_ p_ => ∃ zs : List Int, p_ = [rowE 3 1 u_ n.ss.length (zs.map (Value.int .i64))]) (vf 8) (pf 8) := hR 8 (by decide)
   obtain ⟨v26, vE8⟩ : ∃ x, vf 8 = x := ⟨_, rfl⟩
   obtain ⟨p27, pE8⟩ : ∃ x, pf 8 = x := ⟨_, rfl⟩
   have hR28 := e8
   rw [vE8, pE8] at hR28
   obtain ⟨rzhR28, rfl⟩ := hR28
   refine Or.inl ⟨want_of (congrArg some e6.1) rfl, ?_⟩
   exact zbt (sk 75 (congrArg some vE8) (zag _)) (by simp only [pE8, vE8, e6.2, fS] <;> rfl) (zbq (lnQ rfl rfl rfl (zao 0 rfl)))
  ·
   intro vf pf hR
   have e6 := hR 6 (by decide)
   refine Or.inl ⟨want_of (congrArg some e6.1) rfl, ?_⟩
   exact zbm (zaq [3] rfl) (zbq (fdQ 1 rfl rfl rfl))
  ·
   intro vf pf hR
   have e6 := hR 6 (by decide)
   have e10 := hR 10 (by decide)
   refine Or.inl ⟨want_of (congrArg some e6.1) rfl, ?_⟩
   exact zbu (sk 77 (congrArg some e10.1) (zag _)) (List.sublist_append_right _ _) (zbq (zae rfl rfl rfl (zac 2 rfl rfl)))
  ·
   intro vf pf hR
   have e6 := hR 6 (by decide)
   have e11 := hR 11 (by decide)
   refine Or.inl ⟨want_of (congrArg some e6.1) rfl, ?_⟩
   exact zbu (sk 78 (congrArg some e11.1) (zag _)) (List.sublist_append_right _ _) (zbq (lnQ rfl rfl rfl (fun w hm => (hps w (hm.holds _ (zbs (i := 3) rfl))).1.sq)))
  ·
   intro vf pf hR
   have e6 := hR 6 (by decide)
   have e8 : (fun u_ p_ => ∃ zs : List Int, p_ = [rowE 3 1 u_ n.ss.length (zs.map (Value.int .i64))]) (vf 8) (pf 8) := hR 8 (by decide)
   obtain ⟨v26, vE8⟩ : ∃ x, vf 8 = x := ⟨_, rfl⟩
   obtain ⟨p27, pE8⟩ : ∃ x, pf 8 = x := ⟨_, rfl⟩
   have hR28 := e8
   rw [vE8, pE8] at hR28
   obtain ⟨rzhR28, rfl⟩ := hR28
   have e9 := hR 9 (by decide)
   have e12 := hR 12 (by decide)
   refine Or.inl ⟨want_of (congrArg some e6.1) rfl, ?_⟩
   exact zbt (sk 76 (congrArg some e9.1) (sk 79 (congrArg some e12.1) (zag _))) (by simp only [pE8, vE8, e6.2, e9.2, e12.2, fS] <;> rfl) (zbz (zbq (zbl rfl rfl rfl rfl)) (fun _ _ h => ⟨h.1.trans (congrArg Value.bool hb29), h.2⟩))
  intro vf pf hR
  have e6 := hR 6 (by decide)
  have e13 := hR 13 (by decide)
  exact ovQ rfl (sk 73 (congrArg some e6.1) (sk 80 (congrArg some e13.1) (zag _))) (zbq (zaf rfl))
 intro vf pf hR
 have e8 : (fun u_ p_ => ∃ zs : List Int, p_ = [rowE 3 1 u_ n.ss.length (zs.map (Value.int .i64))]) (vf 8) (pf 8) := hR 8 (by decide)
 obtain ⟨v26, vE8⟩ : ∃ x, vf 8 = x := ⟨_, rfl⟩
 obtain ⟨p27, pE8⟩ : ∃ x, pf 8 = x := ⟨_, rfl⟩
 have hR28 := e8
 rw [vE8, pE8] at hR28
 obtain ⟨rzhR28, rfl⟩ := hR28
 have e14 := hR 14 (by decide)
 have q0 := hR 0 (by decide)
 have q1 := hR 1 (by decide)
 have q2 := hR 2 (by decide)
 have q3 := hR 3 (by decide)
 have q4 := hR 4 (by decide)
 have q5 := hR 5 (by decide)
 have q6 := hR 6 (by decide)
 have q7 := hR 7 (by decide)
 have q9 := hR 9 (by decide)
 have q10 := hR 10 (by decide)
 have q11 := hR 11 (by decide)
 have q12 := hR 12 (by decide)
 have q13 := hR 13 (by decide)
 have q14 := hR 14 (by decide)
 refine zcy (zcc [34, 26, 13, 8, 7, 6, 5, 4, 3, 2, 0] _ (sk 81 (congrArg some e14.1) (zag _)) rfl) (by simp only [pE8, vE8, q0.2, q1.2, q2.2, q3.2, q4.2, q5.2, q6.2, q7.2, q9.2, q10.2, q11.2, q12.2, q13.2, q14.2, fS] <;> rfl) ?_
 simp only [List.drop_succ_cons, List.drop_zero]
 refine zbf 1 rfl ?_
 exact zav (zbi rfl rfl rfl)
end Go.Proofs.Ytceplahoobhmhaa
