/- Texts of the law FnHold, part 4: what it uses. -/
import Derived.Test.YtakjndmlanpadaaHld3
set_option linter.unusedVariables false
set_option linter.unusedSimpArgs false
set_option maxHeartbeats 4000000
set_option maxRecDepth 100000
namespace Go.Proofs.Ytakjndmlanpadaa
open Go.RowKit Go.ChangeShapes
open Go.RowKit
theorem AddAndS_ret (n : Nt) (x y : Int) (w : World) (hr : RdsNt w n) (hn : NtOk n) (hx : LtOk x n.cnt) (hy : LtOk y n.cnt) (hl : n.gs.length < 300) :
   Calls Try.prog 75 #[.agg #[.int .i64 n.ins, n.sv, n.av, n.ov], .int .i64 x, .int .i64 y] w (Ret w (fun u_ p_ => ∃ (ps : List HP) (m : Nt) (x : Int), u_ = .tuple #[m.agg, .int .i64 x] ∧ p_ = [rowE 35 3 m.sv m.ss.length (m.ss.flatMap sqC), bigE ps] ∧ (∀ w, (bigE ps).holds w → NtRest w m) ∧ (m.sv.oneCell' = true ∧ m.av.oneCell' = true ∧ m.ov.oneCell' = true) ∧ Grew n m x)) := by
 have hi0 := hn.i0
 have hi1 := hn.i1
 have hs1 := hn.s1
 have ha1 := hn.a1
 have ho1 := hn.o1
 have hcnt : n.cnt = 1 + n.ins + n.ss.length + n.gs.length := rfl
 have hfst : n.fst = 1 + n.ins + n.ss.length := rfl
 obtain ⟨hx0, hx1⟩ := id hx
 obtain ⟨hy0, hy1⟩ := id hy
 refine zbf (N := 99) (args := [.agg #[.int .i64 n.ins, n.sv, n.av, n.ov], .int .i64 x, .int .i64 y]) Try.func75 rfl rfl (srQ ?_)
 refine zdt rfl (zct rfl rfl) ?_
 intro b1
 refine zdt rfl (zbm (z := .agg #[.int .i64 0, .slice none 0 0, .slice none 0 0, .slice none 0 0]) rfl rfl) ?_
 intro b2
 refine zbb 1 rfl (srQ (hvQ rfl (zar (cs := [.int .i64 n.ins, n.sv, n.av, n.ov]) rfl rfl rfl rfl rfl (zam 1 rfl 0 rfl)) ?_))
 refine hl_q rfl rfl rfl (zal rfl rfl (fun w hm => l08Copy_ret n w (hr.below hm.bel) hn)) ?_
 intro v3 p4 hR5
 obtain ⟨ps, m, rfl, rfl, hps, ⟨o1m, o3m⟩, hcp⟩ := hR5
 have hmg : m.gs.length = n.gs.length := by rw [hcp.gs]
 refine zdt rfl (zbm (z := .agg #[.int .i64 0, .slice none 0 0, .slice none 0 0, .slice none 0 0]) rfl rfl) ?_
 intro b6
 refine zcr (i := 2) rfl (fun ho7 => ?_)
 refine zbr (cs' := #[.int .i64 m.ins, m.sv, m.av, m.ov]) (i := 0) (off := 0) (us := [.int .i64 m.ins, m.sv, m.av, m.ov]) rfl rfl rfl rfl rfl rfl rfl (zae rfl (zae o1m (zae ho7 (zae o3m zbj)))) rfl rfl rfl (ntQ (srQ (hvQ rfl (zar (cs := [.int .i64 n.ins, n.sv, n.av, n.ov]) rfl rfl rfl rfl rfl (zam 5 rfl 0 rfl)) ?_)))
 refine zdm rfl (zal rfl rfl (fun w hm => zas (zbs n w (hr.below hm.bel) hn))) (zbb 1 rfl (zfl (hvQ rfl (zar (cs := [.int .i64 n.ins, n.sv, n.av, n.ov]) rfl rfl rfl rfl rfl (zam 5 rfl 0 rfl)) ?_)))
 refine zdm rfl (zal rfl rfl (fun w hm => zas (zds n w (hr.below hm.bel) hn))) (zao 4 rfl ?_)
 refine zdm rfl (zal rfl rfl (fun w hm => zas (zgk x n.cnt w hx (by omega)))) (zao 5 rfl ?_)
 refine zdm rfl (zal rfl rfl (fun w hm => zas (zgk y n.cnt w hy (by omega)))) (zbb 2 rfl (zaq rfl (zcp (zac (zac (reQ 1 rfl ?_))))))
 refine zcu rfl rfl rfl rfl rfl rfl (fun h8 => ?_) (fun h8 => ?_)
 ·
  refine zbb 10 rfl (zan rfl (srQ (hvQ rfl (zar (cs := [.int .i64 m.ins, m.sv, m.av, m.ov]) rfl rfl rfl rfl rfl (zam 0 rfl 0 rfl)) ?_)))
  refine zbr (cs' := #[.int .i64 m.ins, m.sv, m.av, m.ov]) (i := 4) (off := 0) (us := [.int .i64 m.ins, m.sv, m.av, m.ov]) rfl rfl rfl rfl rfl rfl rfl (zae rfl (zae o1m (zae ho7 (zae o3m zbj)))) rfl rfl rfl (zbb 1 rfl ?_)
  refine zav (zap ?_)
  refine zdv (fun w hm => (zah 2 rfl w hm).one) (fun ho2 => ?_)
  refine zbo 6 [4, 1, 2, 3] rfl rfl (by decide) ?_
  refine zcx 2 rfl ?_
  refine zbo 3 [2, 0, 1] rfl rfl (by decide) ?_
  exact zdn (rs := [.cell 6 101, .tmp 7]) (vs := [.agg #[.int .i64 m.ins, m.sv, m.av, m.ov], .int .i64 0]) (post := [rowE 35 3 m.sv m.ss.length (m.ss.flatMap sqC), bigE [bigE ps, rowE 124 2 m.av m.gs.length (m.gs.flatMap anC)]]) rfl ⟨⟨b2, 0, [.int .i64 m.ins, m.sv, m.av, m.ov], rfl, rfl, by kernel_rfl, by kernel_rfl, zam 2 rfl 0 rfl⟩, rfl, trivial⟩ rfl (slQ [0, 0] rfl) ⟨_, m, _, rfl, rfl, fun w hw => ⟨(hps w (zba hw List.mem_cons_self)).1, zbp (zba hw (List.mem_cons_of_mem _ List.mem_cons_self)), (hps w (zba hw List.mem_cons_self)).2⟩, ⟨o1m, ho2, o3m⟩, hcp.same hn (by unfold LtOk; omega)⟩
 refine zao 2 rfl (zcu rfl rfl rfl rfl rfl rfl (fun h9 => ?_) (fun h9 => ?_))
 ·
  refine zbb 7 rfl (zan rfl (srQ (hvQ rfl (zar (cs := [.int .i64 m.ins, m.sv, m.av, m.ov]) rfl rfl rfl rfl rfl (zam 0 rfl 0 rfl)) ?_)))
  refine zbr (cs' := #[.int .i64 m.ins, m.sv, m.av, m.ov]) (i := 4) (off := 0) (us := [.int .i64 m.ins, m.sv, m.av, m.ov]) rfl rfl rfl rfl rfl rfl rfl (zae rfl (zae o1m (zae ho7 (zae o3m zbj)))) rfl rfl rfl (zbb 1 rfl ?_)
  refine zav (zap ?_)
  refine zdv (fun w hm => (zah 2 rfl w hm).one) (fun ho2 => ?_)
  refine zbo 6 [4, 1, 2, 3] rfl rfl (by decide) ?_
  refine zcx 2 rfl ?_
  refine zbo 3 [2, 0, 1] rfl rfl (by decide) ?_
  exact zdn (rs := [.cell 6 101, .tmp 7]) (vs := [.agg #[.int .i64 m.ins, m.sv, m.av, m.ov], .int .i64 0]) (post := [rowE 35 3 m.sv m.ss.length (m.ss.flatMap sqC), bigE [bigE ps, rowE 124 2 m.av m.gs.length (m.gs.flatMap anC)]]) rfl ⟨⟨b2, 0, [.int .i64 m.ins, m.sv, m.av, m.ov], rfl, rfl, by kernel_rfl, by kernel_rfl, zam 2 rfl 0 rfl⟩, rfl, trivial⟩ rfl (slQ [0, 0] rfl) ⟨_, m, _, rfl, rfl, fun w hw => ⟨(hps w (zba hw List.mem_cons_self)).1, zbp (zba hw (List.mem_cons_of_mem _ List.mem_cons_self)), (hps w (zba hw List.mem_cons_self)).2⟩, ⟨o1m, ho2, o3m⟩, hcp.same hn (by unfold LtOk; omega)⟩
 refine zao 4 rfl (hvQ rfl (zdg rfl (by decide) rfl rfl (r := xr y) (xor_xr hy0 (by omega))) ?_)
 refine zcu rfl rfl rfl rfl rfl rfl (fun h10 => ?_) (fun h10 => ?_)
 ·
  refine zbb 1 rfl (zan rfl (srQ (hvQ rfl (zar (cs := [.int .i64 m.ins, m.sv, m.av, m.ov]) rfl rfl rfl rfl rfl (zam 0 rfl 0 rfl)) ?_)))
  refine zbr (cs' := #[.int .i64 m.ins, m.sv, m.av, m.ov]) (i := 4) (off := 0) (us := [.int .i64 m.ins, m.sv, m.av, m.ov]) rfl rfl rfl rfl rfl rfl rfl (zae rfl (zae o1m (zae ho7 (zae o3m zbj)))) rfl rfl rfl (zbb 1 rfl ?_)
  refine zav (zap ?_)
  refine zdv (fun w hm => (zah 2 rfl w hm).one) (fun ho2 => ?_)
  refine zbo 6 [4, 1, 2, 3] rfl rfl (by decide) ?_
  refine zcx 2 rfl ?_
  refine zbo 3 [2, 0, 1] rfl rfl (by decide) ?_
  exact zdn (rs := [.cell 6 101, .tmp 7]) (vs := [.agg #[.int .i64 m.ins, m.sv, m.av, m.ov], .int .i64 0]) (post := [rowE 35 3 m.sv m.ss.length (m.ss.flatMap sqC), bigE [bigE ps, rowE 124 2 m.av m.gs.length (m.gs.flatMap anC)]]) rfl ⟨⟨b2, 0, [.int .i64 m.ins, m.sv, m.av, m.ov], rfl, rfl, by kernel_rfl, by kernel_rfl, zam 2 rfl 0 rfl⟩, rfl, trivial⟩ rfl (slQ [0, 0] rfl) ⟨_, m, _, rfl, rfl, fun w hw => ⟨(hps w (zba hw List.mem_cons_self)).1, zbp (zba hw (List.mem_cons_of_mem _ List.mem_cons_self)), (hps w (zba hw List.mem_cons_self)).2⟩, ⟨o1m, ho2, o3m⟩, hcp.same hn (by unfold LtOk; omega)⟩
 refine zbb 1 rfl (zaq rfl (zcp (zac (zac (reQ 1 rfl ?_)))))
 refine zcu rfl rfl rfl rfl rfl rfl (fun h11 => ?_) (fun h11 => ?_)
 ·
  refine zbb 5 rfl (zan rfl (srQ (hvQ rfl (zar (cs := [.int .i64 m.ins, m.sv, m.av, m.ov]) rfl rfl rfl rfl rfl (zam 0 rfl 0 rfl)) (zao 1 rfl ?_))))
  refine zbr (cs' := #[.int .i64 m.ins, m.sv, m.av, m.ov]) (i := 4) (off := 0) (us := [.int .i64 m.ins, m.sv, m.av, m.ov]) rfl rfl rfl rfl rfl rfl rfl (zae rfl (zae o1m (zae ho7 (zae o3m zbj)))) rfl rfl rfl (zbb 1 rfl ?_)
  refine zav (zap ?_)
  refine zdv (fun w hm => (zah 2 rfl w hm).one) (fun ho2 => ?_)
  refine zbo 6 [4, 1, 2, 3] rfl rfl (by decide) ?_
  refine zcx 2 rfl ?_
  refine zbo 3 [2, 0, 1] rfl rfl (by decide) ?_
  exact zdn (rs := [.cell 6 101, .tmp 7]) (vs := [.agg #[.int .i64 m.ins, m.sv, m.av, m.ov], .int .i64 y]) (post := [rowE 35 3 m.sv m.ss.length (m.ss.flatMap sqC), bigE [bigE ps, rowE 124 2 m.av m.gs.length (m.gs.flatMap anC)]]) rfl ⟨⟨b2, 0, [.int .i64 m.ins, m.sv, m.av, m.ov], rfl, rfl, by kernel_rfl, by kernel_rfl, zam 2 rfl 0 rfl⟩, rfl, trivial⟩ rfl (slQ [0, 0] rfl) ⟨_, m, _, rfl, rfl, fun w hw => ⟨(hps w (zba hw List.mem_cons_self)).1, zbp (zba hw (List.mem_cons_of_mem _ List.mem_cons_self)), (hps w (zba hw List.mem_cons_self)).2⟩, ⟨o1m, ho2, o3m⟩, hcp.same hn hy⟩
 refine zao 3 rfl (zcu rfl rfl rfl rfl rfl rfl (fun h12 => ?_) (fun h12 => ?_))
 ·
  refine zbb 1 rfl (zan rfl (srQ (hvQ rfl (zar (cs := [.int .i64 m.ins, m.sv, m.av, m.ov]) rfl rfl rfl rfl rfl (zam 0 rfl 0 rfl)) (zao 1 rfl ?_))))
  refine zbr (cs' := #[.int .i64 m.ins, m.sv, m.av, m.ov]) (i := 4) (off := 0) (us := [.int .i64 m.ins, m.sv, m.av, m.ov]) rfl rfl rfl rfl rfl rfl rfl (zae rfl (zae o1m (zae ho7 (zae o3m zbj)))) rfl rfl rfl (zbb 1 rfl ?_)
  refine zav (zap ?_)
  refine zdv (fun w hm => (zah 2 rfl w hm).one) (fun ho2 => ?_)
  refine zbo 6 [4, 1, 2, 3] rfl rfl (by decide) ?_
  refine zcx 2 rfl ?_
  refine zbo 3 [2, 0, 1] rfl rfl (by decide) ?_
  exact zdn (rs := [.cell 6 101, .tmp 7]) (vs := [.agg #[.int .i64 m.ins, m.sv, m.av, m.ov], .int .i64 y]) (post := [rowE 35 3 m.sv m.ss.length (m.ss.flatMap sqC), bigE [bigE ps, rowE 124 2 m.av m.gs.length (m.gs.flatMap anC)]]) rfl ⟨⟨b2, 0, [.int .i64 m.ins, m.sv, m.av, m.ov], rfl, rfl, by kernel_rfl, by kernel_rfl, zam 2 rfl 0 rfl⟩, rfl, trivial⟩ rfl (slQ [0, 0] rfl) ⟨_, m, _, rfl, rfl, fun w hw => ⟨(hps w (zba hw List.mem_cons_self)).1, zbp (zba hw (List.mem_cons_of_mem _ List.mem_cons_self)), (hps w (zba hw List.mem_cons_self)).2⟩, ⟨o1m, ho2, o3m⟩, hcp.same hn hy⟩
 refine zbb 1 rfl (zaq rfl (zcp (zac (zac (reQ 1 rfl ?_)))))
 refine zcu rfl rfl rfl rfl rfl rfl (fun h13 => ?_) (fun h13 => ?_)
 ·
  refine ntQ (zan rfl (srQ (hvQ rfl (zar (cs := [.int .i64 m.ins, m.sv, m.av, m.ov]) rfl rfl rfl rfl rfl (zam 0 rfl 0 rfl)) (zao 1 rfl ?_))))
  refine zbr (cs' := #[.int .i64 m.ins, m.sv, m.av, m.ov]) (i := 4) (off := 0) (us := [.int .i64 m.ins, m.sv, m.av, m.ov]) rfl rfl rfl rfl rfl rfl rfl (zae rfl (zae o1m (zae ho7 (zae o3m zbj)))) rfl rfl rfl (zbb 1 rfl ?_)
  refine zav (zap ?_)
  refine zdv (fun w hm => (zah 2 rfl w hm).one) (fun ho2 => ?_)
  refine zbo 6 [4, 1, 2, 3] rfl rfl (by decide) ?_
  refine zcx 2 rfl ?_
  refine zbo 3 [2, 0, 1] rfl rfl (by decide) ?_
  exact zdn (rs := [.cell 6 101, .tmp 7]) (vs := [.agg #[.int .i64 m.ins, m.sv, m.av, m.ov], .int .i64 x]) (post := [rowE 35 3 m.sv m.ss.length (m.ss.flatMap sqC), bigE [bigE ps, rowE 124 2 m.av m.gs.length (m.gs.flatMap anC)]]) rfl ⟨⟨b2, 0, [.int .i64 m.ins, m.sv, m.av, m.ov], rfl, rfl, by kernel_rfl, by kernel_rfl, zam 2 rfl 0 rfl⟩, rfl, trivial⟩ rfl (slQ [0, 0] rfl) ⟨_, m, _, rfl, rfl, fun w hw => ⟨(hps w (zba hw List.mem_cons_self)).1, zbp (zba hw (List.mem_cons_of_mem _ List.mem_cons_self)), (hps w (zba hw List.mem_cons_self)).2⟩, ⟨o1m, ho2, o3m⟩, hcp.same hn hx⟩
 refine ntQ (zaq rfl (zcp (zac (reQ 2 rfl (hvQ rfl (rv_min rfl rfl rfl) (zao 2 rfl (hvQ rfl (rv_max rfl rfl rfl) (hvQ rfl (zda (cs := #[.int .i64 (min x y), .int .i64 (if x < y then y else x)]) rfl rfl rfl) ?_))))))))
 refine zdt rfl (zbm (z := .agg #[.int .i64 0, .int .i64 0]) rfl rfl) ?_
 intro b14
 refine zbr (cs' := #[.int .i64 (min x y), .int .i64 (if x < y then y else x)]) (i := 0) (off := 0) (us := [.int .i64 (min x y), .int .i64 (if x < y then y else x)]) rfl rfl rfl rfl rfl rfl rfl (zae rfl (zae rfl zbj)) rfl rfl rfl (ntQ (zac (zbc 1 rfl (zaw ?_))))
 refine lkQ1 (α := Nat) [0, 1, 2, 3, 6, 7, 8, 9, 10, 30, 43, 51, 55] rfl (fun i => [boxE b14 #[.int .i64 (min x y), .int .i64 (if x < y then y else x)] 124, boxE b6 #[.int .i64 m.ins, m.sv, m.av, m.ov] 101, rowE 35 3 m.sv m.ss.length (m.ss.flatMap sqC), rowE 124 2 m.av m.gs.length (m.gs.flatMap anC), bigE ps, boxE b2 #[.int .i64 0, .slice none 0 0, .slice none 0 0, .slice none 0 0] 101, boxE b1 #[.int .i64 n.ins, n.sv, n.av, n.ov] 101]) (fun i => [(11, .int .i64 (i : Int))]) (fun i => i ≤ n.gs.length) (fun i => n.gs.length - i) 0 (Nat.zero_le _) (saQ rfl) (pfQ rfl) ?_
 intro i hi15
 have hi := hi15
 refine zac (zac (reQ 1 rfl (hvQ rfl (fdQ 2 rfl rfl rfl) (hvQ rfl (zag rfl rfl rfl (zad 6 rfl rfl)) (hvQ rfl (lnQ rfl rfl rfl (zaa hr.an)) ?_)))))
 refine zbh rfl rfl rfl rfl rfl rfl (fun h16 => ?_) (fun h16 => ?_)
 ·
  refine ntQ (zan rfl (zcp (sbQ (zac ?_))))
  rcases Bool.eq_false_or_eq_true (eqA ((n.gs.getD i an0).a) ((n.gs.getD i an0).b) (min x y) (if x < y then y else x)) with hb17 | hb17
  ·
   refine zbk 7 [[], [0], [], [1, 2], [3], [], [4, 5]] [72, 73, 74, 75, 76, 77, 78] [.pointer (some ⟨b1, 0 + 2, none⟩), n.av, .int .i64 (i : Int), elP n.av (((i : Int)).toNat * 2), .agg #[.int .i64 ((n.gs.getD i an0).a), .int .i64 ((n.gs.getD i an0).b)], .agg #[.int .i64 (min x y), .int .i64 (if x < y then y else x)], .bool true] (by kernel_rfl) rfl ?_ ?_
   ·
    exact ⟨iaQ rfl (fdQ 2 rfl rfl rfl) rfl, iaQ rfl (zag rfl rfl rfl (zad 6 rfl rfl)) rfl, iaQ rfl (zaj rfl) rfl, iaQ rfl (riQ 2 rfl rfl rfl rfl (zaa hr.an)) rfl, iaQ rfl (zcl (us := [.int .i64 ((n.gs.getD i an0).a), .int .i64 ((n.gs.getD i an0).b)]) rfl rfl rfl rfl (zaa hr.an) (by omega) rfl (zde anC 2 (fun _ => rfl) n.gs an0 (show i < _ by omega) rfl)) rfl, iaQ rfl (zar (cs := [.int .i64 (min x y), .int .i64 (if x < y then y else x)]) rfl rfl rfl rfl rfl (zam 0 rfl 0 rfl)) rfl, .inl ⟨rfl, zcz (rv_eqAn rfl rfl rfl) hb17⟩, trivial⟩
   simp only [List.drop_succ_cons, List.drop_zero]
   refine ntQ (zan rfl (zac ?_))
   refine zfc 7 [6, 4, 3, 2, 1, 0, 5] rfl rfl (by decide) ?_
   refine hc_draw3 (l := [boxE b14 #[.int .i64 (min x y), .int .i64 (if x < y then y else x)] 124, boxE b6 #[.int .i64 m.ins, m.sv, m.av, m.ov] 101, rowE 35 3 m.sv m.ss.length (m.ss.flatMap sqC), rowE 124 2 m.av m.gs.length (m.gs.flatMap anC), bigE ps, boxE b1 #[.int .i64 n.ins, n.sv, n.av, n.ov] 101]) rfl 7 [0, 1, 2, 3, 4, 5, 6] (List.take 7 _) (List.drop 7 _) [[], [], [1], [], [2, 3], [4], [0]] [some 79, some 80, some 81, some 82, some 83, some 84, none] (fun i_ vs_ v_ p_ => match i_ with | 0 => v_ = .agg #[.int .i64 m.ins, m.sv, m.av, m.ov] ∧ p_ = [] | 1 => v_ = .agg #[.int .i64 n.ins, n.sv, n.av, n.ov] ∧ p_ = [] | 2 => v_ = .int .i64 n.fst ∧ p_ = [] | 3 => v_ = .int .i64 (i : Int) ∧ p_ = [] | 4 => v_ = .int .i64 (n.fst + (i : Int)) ∧ p_ = [] | 5 => v_ = .int .i64 (2 * (n.fst + (i : Int))) ∧ p_ = [] | 6 => p_ = [boxE b2 #[.int .i64 m.ins, m.sv, m.av, m.ov] 101] | _ => True) [[], [], [1], [], [2, 3], [4], [0]] [none, none, none, none, none, none, some 8] [[boxE b2 #[.int .i64 0, .slice none 0 0, .slice none 0 0, .slice none 0 0] 101]] [0, 1, 2, 3, 4, 5, 6] 8 (List.take_append_drop 7 _).symm (by kernel_rfl) (by kernel_rfl) (by kernel_rfl) rfl rfl ?_ ?_
   ·
    refine ⟨?_, ?_, ?_, ?_, ?_, ?_, ?_, trivial⟩
    ·
     intro vf pf hmu hR
     refine zdz [] [] rfl (zbq (zai [8] rfl) (List.sublist_append_right _ _) ?_)
     exact zbd (zar (cs := [.int .i64 m.ins, m.sv, m.av, m.ov]) rfl rfl rfl rfl rfl (zam 1 rfl 0 rfl))
    ·
     intro vf pf hmu hR
     refine zdz [] [] rfl (zbq (zai [3] rfl) (List.sublist_append_right _ _) ?_)
     exact zbd (zar (cs := [.int .i64 n.ins, n.sv, n.av, n.ov]) rfl rfl rfl rfl rfl (zam 5 rfl 0 rfl))
    ·
     intro vf pf hmu hR
     have e1 := hR 1 (by decide)
     refine zdz [1] [1] rfl (zbq (sk 80 (congrArg some e1.1) (zab _)) (List.sublist_append_right _ _) ?_)
     exact (zal rfl rfl (fun w hm => zas (zbz n w (hr.below hm.bel) hn)))
    ·
     intro vf pf hmu hR
     refine zdz [] [] rfl (zbu (zai [11] rfl) ?_)
     exact zbd (zaj rfl)
    ·
     intro vf pf hmu hR
     have e2 := hR 2 (by decide)
     have e3 := hR 3 (by decide)
     refine zdz [2, 3] [2, 3] rfl (zbu (sk 81 (congrArg some e2.1) (sk 82 (congrArg some e3.1) (zab _))) ?_)
     exact zbd (vaQ rfl rfl rfl)
    ·
     intro vf pf hmu hR
     have e4 := hR 4 (by decide)
     refine zdz [4] [4] rfl (zbu (sk 83 (congrArg some e4.1) (zab _)) ?_)
     exact zbd (zfe rfl rfl rfl (by constructor <;> omega))
    intro vf pf hmu hR
    have e0 := hR 0 (by decide)
    refine Or.inl ⟨rfl, ?_⟩
    show RunM _ _ _ (pf 8) (([0] : List Nat).flatMap pf ++ _) (envOf3 _ vf [0] ++ _) _ _
    have hmu0 : pf 8 = [boxE b2 #[.int .i64 0, .slice none 0 0, .slice none 0 0, .slice none 0 0] 101] := hmu 0 (show 0 < 1 by omega)
    rw [hmu0]
    exact zdd (sk 6 rfl (sk 79 (congrArg some e0.1) (zab _))) (by simp only [e0.2, fS] <;> rfl) (rm_mono (zgc (us := [.int .i64 m.ins, m.sv, m.av, m.ov]) (off := 0) 0 rfl rfl rfl rfl rfl rfl (zae rfl (zae o1m (zae ho7 (zae o3m zbj)))) rfl rfl) (fun v_ p_ h => by show p_ = [boxE b2 #[.int .i64 m.ins, m.sv, m.av, m.ov] 101]; exact h))
   intro vf pf hmu hR
   have e5 := hR 5 (by decide)
   have e6 : (pf 6) = [boxE b2 #[.int .i64 m.ins, m.sv, m.av, m.ov] 101] := hR 6 (by decide)
   have pE6 := e6
   have q0 := hR 0 (by decide)
   have q1 := hR 1 (by decide)
   have q2 := hR 2 (by decide)
   have q3 := hR 3 (by decide)
   have q4 := hR 4 (by decide)
   have q5 := hR 5 (by decide)
   refine zce (zbe [78, 69, 55, 51, 43, 30, 11, 10, 9, 8, 7, 6, 3, 2, 1, 0] _ (sk 84 (congrArg some e5.1) (zab _)) rfl) (by simp only [pE6, q0.2, q1.2, q2.2, q3.2, q4.2, q5.2, fS] <;> rfl) ?_
   simp only [List.drop_succ_cons, List.drop_zero]
   refine zbb 1 rfl ?_
   refine zav (zak ?_)
   refine zfs ?_
   refine zak (zap ?_)
   refine zdv (fun w hm => (zah 4 rfl w hm).one) (fun ho2 => ?_)
   refine zbo 7 [3, 0, 4, 5] rfl rfl (by decide) ?_
   refine zcx 2 rfl ?_
   refine zbo 3 [1, 0, 2] rfl rfl (by decide) ?_
   exact zdn (rs := [.cell 6 101, .tmp 7]) (vs := [.agg #[.int .i64 m.ins, m.sv, m.av, m.ov], .int .i64 (2 * (n.fst + (i : Int)))]) (post := [rowE 35 3 m.sv m.ss.length (m.ss.flatMap sqC), bigE [bigE ps, rowE 124 2 m.av m.gs.length (m.gs.flatMap anC)]]) rfl ⟨⟨b2, 0, [.int .i64 m.ins, m.sv, m.av, m.ov], rfl, rfl, by kernel_rfl, by kernel_rfl, zam 2 rfl 0 rfl⟩, rfl, trivial⟩ rfl (slQ [0, 0] rfl) ⟨_, m, _, rfl, rfl, fun w hw => ⟨(hps w (zba hw List.mem_cons_self)).1, zbp (zba hw (List.mem_cons_of_mem _ List.mem_cons_self)), (hps w (zba hw List.mem_cons_self)).2⟩, ⟨o1m, ho2, o3m⟩, hcp.same hn (by unfold LtOk; omega)⟩
  refine zbk 7 [[], [0], [], [1, 2], [3], [], [4, 5]] [72, 73, 74, 75, 76, 77, 78] [.pointer (some ⟨b1, 0 + 2, none⟩), n.av, .int .i64 (i : Int), elP n.av (((i : Int)).toNat * 2), .agg #[.int .i64 ((n.gs.getD i an0).a), .int .i64 ((n.gs.getD i an0).b)], .agg #[.int .i64 (min x y), .int .i64 (if x < y then y else x)], .bool false] (by kernel_rfl) rfl ?_ ?_
  ·
   exact ⟨iaQ rfl (fdQ 2 rfl rfl rfl) rfl, iaQ rfl (zag rfl rfl rfl (zad 6 rfl rfl)) rfl, iaQ rfl (zaj rfl) rfl, iaQ rfl (riQ 2 rfl rfl rfl rfl (zaa hr.an)) rfl, iaQ rfl (zcl (us := [.int .i64 ((n.gs.getD i an0).a), .int .i64 ((n.gs.getD i an0).b)]) rfl rfl rfl rfl (zaa hr.an) (by omega) rfl (zde anC 2 (fun _ => rfl) n.gs an0 (show i < _ by omega) rfl)) rfl, iaQ rfl (zar (cs := [.int .i64 (min x y), .int .i64 (if x < y then y else x)]) rfl rfl rfl rfl rfl (zam 0 rfl 0 rfl)) rfl, .inl ⟨rfl, zcz (rv_eqAn rfl rfl rfl) hb17⟩, trivial⟩
  simp only [List.drop_succ_cons, List.drop_zero]
  refine ntQ (fsQ rfl (zcv (reQ 1 rfl (hvQ rfl (vaQ rfl rfl rfl) (enQ 1 rfl ?_)))))
  exact zck (i + 1) (by omega) (by omega) (saQ rfl) (pfQ rfl)
 refine ntQ (zaq rfl ?_)
 refine zaz (zdp ?_)
 refine zaf (zax (zfl (hvQ rfl (fdQ 2 rfl rfl rfl) (hvQ rfl (zag rfl rfl rfl (zad 6 rfl rfl)) (hvQ rfl (lnQ rfl rfl rfl (zaa hr.an)) ?_)))))
 refine zcu rfl rfl rfl rfl rfl rfl (fun h18 => absurd h18 (by omega)) (fun h18 => ?_)
 refine ntQ (zaq rfl (zcp (srQ (hvQ rfl (fdQ 2 rfl rfl rfl) (hvQ rfl (zag rfl rfl rfl (zad 1 rfl rfl)) (hvQ rfl (zar (cs := [.int .i64 (min x y), .int .i64 (if x < y then y else x)]) rfl rfl rfl rfl rfl (zam 0 rfl 0 rfl)) ?_))))))
 refine zdu rfl (zau (z := .agg #[.int .i64 0, .int .i64 0]) (s := 2) (cs := ([min x y, (if x < y then y else x)].map (Value.int .i64))) rfl Try.underlying99 rfl (by decide) rfl (by kernel_rfl) rfl) ?_
 intro g19
 refine zcf (i := 4) (z := .agg #[.int .i64 0, .int .i64 0]) (bytes := 16) rfl rfl rfl rfl Try.underlying99 (by kernel_rfl) rfl rfl rfl rfl (zah 0 rfl) (zbw _) (by first | omega | (simp only [List.length_append, List.length_cons, List.length_nil]; omega)) (zbt m.gs [(An.mk (min x y) (if x < y then y else x))]) (zcs anC m.gs (An.mk (min x y) (if x < y then y else x)) _ rfl) (fun _ => rfl) ?_
 intro v20
 refine hvQ rfl (fdQ 2 rfl rfl rfl) (zcr (i := 4) rfl (fun ho21 => ?_))
 refine zed (i := 2) (cs' := #[.int .i64 m.ins, m.sv, v20, m.ov]) rfl rfl rfl rfl rfl rfl ho21 rfl rfl rfl rfl (ntQ (srQ (hvQ rfl (zar (cs := [.int .i64 m.ins, m.sv, v20, m.ov]) rfl rfl rfl rfl rfl (zam 2 rfl 0 rfl)) (zao 1 rfl (hvQ rfl (zfe rfl rfl rfl (by constructor <;> omega)) ?_)))))
 refine zbr (cs' := #[.int .i64 m.ins, m.sv, v20, m.ov]) (i := 6) (off := 0) (us := [.int .i64 m.ins, m.sv, v20, m.ov]) rfl rfl rfl rfl rfl rfl rfl (zae rfl (zae o1m (zae ho21 (zae o3m zbj)))) rfl rfl rfl (zbb 1 rfl ?_)
 refine zav (zdv (fun w hm => (zah 4 rfl w hm).one) (fun ho2 => ?_))
 refine zbo 8 [6, 3, 4, 5] rfl rfl (by decide) ?_
 refine zcx 2 rfl ?_
 refine zbo 3 [2, 0, 1] rfl rfl (by decide) ?_
 exact zdn (rs := [.cell 6 101, .tmp 7]) (vs := [.agg #[.int .i64 m.ins, m.sv, v20, m.ov], .int .i64 (2 * n.cnt)]) (post := [rowE 35 3 m.sv m.ss.length (m.ss.flatMap sqC), bigE [bigE ps, rowE 124 2 v20 ((m.gs ++ [(An.mk (min x y) (if x < y then y else x))]).length) ((m.gs ++ [(An.mk (min x y) (if x < y then y else x))]).flatMap anC)]]) rfl ⟨⟨b2, 0, [.int .i64 m.ins, m.sv, v20, m.ov], rfl, rfl, by kernel_rfl, by kernel_rfl, zam 2 rfl 0 rfl⟩, rfl, trivial⟩ rfl (slQ [0, 0] rfl) ⟨_, { m with av := v20, gs := m.gs ++ [(An.mk (min x y) (if x < y then y else x))] }, _, rfl, rfl, fun w hw => ⟨(hps w (zba hw List.mem_cons_self)).1, zbp (zba hw (List.mem_cons_of_mem _ List.mem_cons_self)), (hps w (zba hw List.mem_cons_self)).2⟩, ⟨o1m, ho2, o3m⟩, (by rw [show (2 * n.cnt) = 2 * n.cnt by omega]; exact hcp.put hn hx hy (by omega) _)⟩
theorem zgj (tos lits : List Int) (c m : Int) (u v : Value) (w : World) (hu : RdsW w u 1 tos.length (tos.map (Value.int .i64))) (hv : RdsW w v 1 lits.length (lits.map (Value.int .i64))) (hmk : MapOk tos c m) (hm9 : m ≤ 100000) (hc9 : c ≤ 100000) (hlits : ∀ x ∈ lits, LtOk x c) (hl : lits.length ≤ 1000) :
   Calls Try.prog 91 #[u, v] w (Ret w (fun v' post => post = [rowE 3 1 v' ((mpS tos lits)).length (((mpS tos lits)).map (Value.int .i64))])) := by
 refine zbf (N := 32) (args := [u, v]) Try.func91 rfl rfl (zbc 1 rfl (srQ ?_))
 refine zdu rfl (zcq (s := 1) rfl Try.underlying26 rfl) ?_
 intro g1
 refine zbb 1 rfl (zac (zbc 1 rfl (zaw ?_)))
 refine lkQ3 (α := Nat) (β := Value) (γ := List Int) [0, 1, 4] rfl (fun i gu zs => [rowE 3 1 gu zs.length (zs.map (Value.int .i64))]) (fun i gu zs => [(5, gu), (6, .int .i64 (i : Int))]) (fun i gu zs => i ≤ lits.length ∧ zs = mpS tos (lits.take i)) (fun i gu zs => lits.length - i) 0 _ [] ⟨by omega, rfl⟩ (saQ rfl) (pfQ rfl) ?_
 intro i gu zs hi2
 obtain ⟨hi, hz⟩ := hi2
 have hzl : zs.length = i := by rw [hz]; unfold mpS; rw [List.length_map, List.length_take]; omega
 refine zac (zac (reQ 2 rfl (hvQ rfl (lnQ rfl rfl rfl (zaa hv)) ?_)))
 refine zbh rfl rfl rfl rfl rfl rfl (fun h3 => ?_) (fun h3 => ?_)
 ·
  refine ntQ (zan rfl (zcp (sbQ ?_)))
  have hlt := hlits _ (zch (d := (0 : Int)) (show i < lits.length by omega))
  have htk := (hmk.lit hlt).1
  have hmk1 := hmk.1
  unfold LtOk at hlt htk
  refine zdo rfl 16 [0, 1, 2, 3, 4, 5, 6, 7, 8, 9, 10, 11, 12, 13, 14, 15] (List.take 16 _) (List.drop 16 _) [[], [], [], [], [2, 3], [4], [5], [1, 6], [7], [], [], [9, 10], [11], [12], [8, 13], [14]] [14, 15, 16, 17, 18, 19, 20, 21, 22, 23, 24, 25, 26, 27, 28, 29] (fun i_ vs_ v_ p_ => match i_ with | 0 => v_ = gu ∧ p_ = [] | 1 => v_ = u ∧ p_ = [] | 2 => v_ = v ∧ p_ = [] | 3 => v_ = .int .i64 (i : Int) ∧ p_ = [] | 4 => v_ = elP v (((i : Int)).toNat * 1) ∧ p_ = [] | 5 => v_ = .int .i64 (lits.getD i 0) ∧ p_ = [] | 6 => v_ = .int .i64 ((lits.getD i 0) / 2) ∧ p_ = [] | 7 => v_ = elP u (((lits.getD i 0) / 2).toNat * 1) ∧ p_ = [] | 8 => v_ = .int .i64 (tos.getD (((lits.getD i 0) / 2).toNat) 0) ∧ p_ = [] | 9 => v_ = v ∧ p_ = [] | 10 => v_ = .int .i64 (i : Int) ∧ p_ = [] | 11 => v_ = elP v (((i : Int)).toNat * 1) ∧ p_ = [] | 12 => v_ = .int .i64 (lits.getD i 0) ∧ p_ = [] | 13 => v_ = .int .i64 ((lits.getD i 0) % 2) ∧ p_ = [] | 14 => v_ = .int .i64 (mpL tos (lits.getD i 0)) ∧ p_ = [] | 15 => IsRow 3 1 1 ([mpL tos (lits.getD i 0)].map (Value.int .i64)) v_ p_ | _ => True) (List.take_append_drop 16 _).symm (by kernel_rfl) (by kernel_rfl) rfl rfl ?_ ?_
  ·
   refine ⟨?_, ?_, ?_, ?_, ?_, ?_, ?_, ?_, ?_, ?_, ?_, ?_, ?_, ?_, ?_, ?_, trivial⟩
   ·
    intro vf pf hR
    exact ovQ rfl (zai [5] rfl) (zbd (zaj rfl))
   ·
    intro vf pf hR
    exact ovQ rfl (zai [0] rfl) (zbd (zaj rfl))
   ·
    intro vf pf hR
    exact ovQ rfl (zai [1] rfl) (zbd (zaj rfl))
   ·
    intro vf pf hR
    exact ovQ rfl (zai [6] rfl) (zbd (zaj rfl))
   ·
    intro vf pf hR
    have e2 := hR 2 (by decide)
    have e3 := hR 3 (by decide)
    exact olQ rfl (sk 16 (congrArg some e2.1) (sk 17 (congrArg some e3.1) (zab _))) (zbd (riQ 1 rfl rfl rfl rfl (zaa hv)))
   ·
    intro vf pf hR
    have e4 := hR 4 (by decide)
    exact olQ rfl (sk 18 (congrArg some e4.1) (zab _)) (zbd (liQ rfl rfl rfl (zaa hv)))
   ·
    intro vf pf hR
    have e5 := hR 5 (by decide)
    exact ovQ rfl (sk 19 (congrArg some e5.1) (zab _)) (zbd (zep rfl rfl rfl (by refine ⟨?_, ?_, ?_⟩ <;> omega)))
   ·
    intro vf pf hR
    have e1 := hR 1 (by decide)
    have e6 := hR 6 (by decide)
    exact olQ rfl (sk 15 (congrArg some e1.1) (sk 20 (congrArg some e6.1) (zab _))) (zbd (riQ 1 rfl rfl rfl rfl (zaa hu)))
   ·
    intro vf pf hR
    have e7 := hR 7 (by decide)
    exact olQ rfl (sk 21 (congrArg some e7.1) (zab _)) (zbd (lzQ rfl rfl rfl (zaa hu)))
   ·
    intro vf pf hR
    exact ovQ rfl (zai [1] rfl) (zbd (zaj rfl))
   ·
    intro vf pf hR
    exact ovQ rfl (zai [6] rfl) (zbd (zaj rfl))
   ·
    intro vf pf hR
    have e9 := hR 9 (by decide)
    have e10 := hR 10 (by decide)
    exact olQ rfl (sk 23 (congrArg some e9.1) (sk 24 (congrArg some e10.1) (zab _))) (zbd (riQ 1 rfl rfl rfl rfl (zaa hv)))
   ·
    intro vf pf hR
    have e11 := hR 11 (by decide)
    exact olQ rfl (sk 25 (congrArg some e11.1) (zab _)) (zbd (liQ rfl rfl rfl (zaa hv)))
   ·
    intro vf pf hR
    have e12 := hR 12 (by decide)
    exact ovQ rfl (sk 26 (congrArg some e12.1) (zab _)) (zbd (zdg rfl (by decide) rfl rfl (r := (lits.getD i 0) % 2) (Bit.and_one _ (by omega) (by omega))))
   ·
    intro vf pf hR
    have e8 := hR 8 (by decide)
    have e13 := hR 13 (by decide)
    exact ovQ rfl (sk 22 (congrArg some e8.1) (sk 27 (congrArg some e13.1) (zab _))) (zbd (zdg rfl (by decide) rfl rfl (r := mpL tos (lits.getD i 0)) (xor_mp (by omega) (by omega))))
   intro vf pf hR
   have e14 := hR 14 (by decide)
   exact olQ rfl (sk 28 (congrArg some e14.1) (zab _)) (zau (z := .int .i64 0) (s := 1) (cs := ([mpL tos (lits.getD i 0)].map (Value.int .i64))) rfl Try.underlying26 rfl (by decide) rfl (by kernel_rfl) rfl)
  intro vf pf hR
  have e0 := hR 0 (by decide)
  have e15 : IsRow 3 1 1 ([mpL tos (lits.getD i 0)].map (Value.int .i64)) (vf 15) (pf 15) := hR 15 (by decide)
  obtain ⟨g4, vE15, pE15⟩ := e15
  have q0 := hR 0 (by decide)
  have q1 := hR 1 (by decide)
  have q2 := hR 2 (by decide)
  have q3 := hR 3 (by decide)
  have q4 := hR 4 (by decide)
  have q5 := hR 5 (by decide)
  have q6 := hR 6 (by decide)
  have q7 := hR 7 (by decide)
  have q8 := hR 8 (by decide)
  have q9 := hR 9 (by decide)
  have q10 := hR 10 (by decide)
  have q11 := hR 11 (by decide)
  have q12 := hR 12 (by decide)
  have q13 := hR 13 (by decide)
  have q14 := hR 14 (by decide)
  refine zce (zbe [11, 6, 5, 4, 1, 0] _ (sk 14 (congrArg some e0.1) (sk 29 (congrArg some vE15) (zab _))) rfl) (by simp only [pE15, vE15, q0.2, q1.2, q2.2, q3.2, q4.2, q5.2, q6.2, q7.2, q8.2, q9.2, q10.2, q11.2, q12.2, q13.2, q14.2, fS] <;> rfl) ?_
  simp only [List.drop_succ_cons, List.drop_zero]
  refine zcf (i := 1) (z := .int .i64 0) (bytes := 8) rfl rfl rfl rfl Try.underlying26 (by kernel_rfl) rfl rfl rfl rfl (zah 0 rfl) (zbw _) (by first | omega | (simp; done) | (simp; omega)) (zbt zs ([mpL tos (lits.getD i 0)])) (zcn zs ([mpL tos (lits.getD i 0)])) (fun _ => rfl) ?_
  intro v5
  refine enQ 1 rfl (zcv (reQ 1 rfl (hvQ rfl (vaQ rfl rfl rfl) (enQ 1 rfl ?_))))
  exact zbi (i + 1) v5 (zs ++ ([mpL tos (lits.getD i 0)])) ⟨by omega, by rw [hz]; unfold mpS; rw [zfd 0 (show i < lits.length by omega), List.map_append]; rfl⟩ (by omega) (saQ rfl) (slQ [1] rfl)
 refine ntQ (zaq rfl ?_)
 refine zaz (zdp ?_)
 refine zaf (zax (zbc 2 rfl ?_))
 exact zav (zdc (post := [rowE 3 1 gu zs.length (zs.map (Value.int .i64))]) rfl rfl (pfQ rfl) (by rw [hz, List.take_of_length_le (by omega)]))
theorem hq_eqL {N : Nat} {w0 : World} {l l' : List HP} {env : List (Nat × Value)} {Q : Post} {e : Exit} (h : l = l') (k : HQ N w0 l' env e Q) : HQ N w0 l env e Q := h ▸ k
def MkLe (bs : List Bl) (M : Int) : Prop := ∀ k : Nat, (bs.getD k bl0).b = true → (k : Int) ≤ M
theorem MkLe.set {bs : List Bl} {M : Int} (h : MkLe bs M) {j : Nat} {b : Bl} (hj : (j : Int) ≤ M) : MkLe (bs.set j b) M := fun k hk => by
  by_cases e : j = k
  · subst e; exact hj
  · rw [List.getD_eq_getElem?_getD, List.getElem?_set_ne e, ← List.getD_eq_getElem?_getD] at hk; exact h k hk
theorem MkLe.start (n : Nat) {j : Nat} {b : Bl} : MkLe ((List.replicate n bl0).set j b) j := fun k hk => by
  by_cases e : j = k
  · subst e; exact Int.le_refl _
  · rw [List.getD_eq_getElem?_getD, List.getElem?_set_ne e, List.getElem?_replicate] at hk
    split at hk <;> exact absurd hk (by decide)
theorem MkLe.startI (n : Nat) {node : Int} {b : Bl} (h0 : 0 ≤ node) : MkLe ((List.replicate n bl0).set node.toNat b) node := by
  have h9 := MkLe.start n (j := node.toNat) (b := b)
  rwa [Int.toNat_of_nonneg h0] at h9
def mkStep (n : Nt) (bs : List Bl) (i : Nat) : List Bl := if (bs.getD (n.fst + (i : Int)).toNat bl0).b = true then (bs.set ((n.gs.getD i an0).a / 2).toNat ⟨true⟩).set ((n.gs.getD i an0).b / 2).toNat ⟨true⟩ else bs
def mkD (n : Nt) (bs : List Bl) : Nat → List Bl
  | 0 => bs
  | d + 1 => mkStep n (mkD n bs d) (n.gs.length - 1 - d)
theorem mkStep_len (n : Nt) (bs : List Bl) (i : Nat) : (mkStep n bs i).length = bs.length := by unfold mkStep; split <;> simp
theorem mkD_len (n : Nt) (bs : List Bl) : ∀ d, (mkD n bs d).length = bs.length
  | 0 => rfl
  | d + 1 => by unfold mkD; rw [mkStep_len, mkD_len n bs d]
theorem mkD_le {n : Nt} (hn : NtOk n) {bs : List Bl} {M : Int} (h : MkLe bs M) : ∀ d, d ≤ n.gs.length → MkLe (mkD n bs d) M
  | 0, _ => h
  | d + 1, hd => by
    have ih := mkD_le hn h d (by omega)
    unfold mkD mkStep
    split
    · rename_i hb
      have h1 := ih _ hb
      have ha := hn.an (n.gs.length - 1 - d) (by omega)
      unfold LtOk at ha
      have hf : 0 ≤ n.fst := by have := hn.i0; unfold Nt.fst; omega
      exact (ih.set (by omega)).set (by omega)
    · exact ih
theorem mkD_next {n : Nt} {bs : List Bl} {kk : Nat} (h0 : 0 < kk) (h1 : kk ≤ n.gs.length) : mkD n bs (n.gs.length - (kk - 1)) = mkStep n (mkD n bs (n.gs.length - kk)) (kk - 1) := by
  rw [show n.gs.length - (kk - 1) = (n.gs.length - kk) + 1 by omega]
  show mkStep n _ (n.gs.length - 1 - (n.gs.length - kk)) = _
  rw [show n.gs.length - 1 - (n.gs.length - kk) = kk - 1 by omega]
theorem mkStep_yes {n : Nt} {bs : List Bl} {i : Nat} {j a b : Nat} (hj : (n.fst + (i : Int)).toNat = j) (hb : (bs.getD j bl0).b = true) (ha : ((n.gs.getD i an0).a / 2).toNat = a) (hb2 : ((n.gs.getD i an0).b / 2).toNat = b) : (bs.set a ⟨true⟩).set b ⟨true⟩ = mkStep n bs i := by
  unfold mkStep; rw [hj, if_pos hb, ha, hb2]
theorem mkStep_no {n : Nt} {bs : List Bl} {i : Nat} {j : Nat} (hj : (n.fst + (i : Int)).toNat = j) (hb : (bs.getD j bl0).b = false) : bs = mkStep n bs i := by
  unfold mkStep; rw [hj, if_neg (by rw [hb]; decide)]
def mkdL (bs : List Bl) (k : Nat) : List Int := ((List.range k).filter fun i : Nat => (bs.getD i bl0).b).map fun i : Nat => (i : Int)
theorem mkdL_yes {bs : List Bl} {k : Nat} (h : (bs.getD k bl0).b = true) : mkdL bs k ++ [(k : Int)] = mkdL bs (k + 1) := by
  unfold mkdL; rw [List.range_succ, List.filter_append, List.map_append, List.filter_cons_of_pos (p := fun i : Nat => (bs.getD i bl0).b) h]; rfl
theorem mkdL_no {bs : List Bl} {k : Nat} (h : (bs.getD k bl0).b = false) : mkdL bs k = mkdL bs (k + 1) := by
  unfold mkdL; rw [List.range_succ, List.filter_append, List.map_append, List.filter_cons_of_neg (p := fun i : Nat => (bs.getD i bl0).b) (by simpa using h)]; simp
theorem mkdL_len (bs : List Bl) (k : Nat) : (mkdL bs k).length ≤ k := by
  unfold mkdL; rw [List.length_map]; have := List.length_filter_le (fun i => (bs.getD i bl0).b) (List.range k); simpa using this
theorem mkdL_mem {bs : List Bl} {k : Nat} {x : Int} (h : x ∈ mkdL bs k) : ∃ i : Nat, x = (i : Int) ∧ i < k ∧ (bs.getD i bl0).b = true := by
  unfold mkdL at h
  simp only [List.mem_map, List.mem_filter, List.mem_range] at h
  obtain ⟨i, ⟨h1, h2⟩, rfl⟩ := h
  exact ⟨i, rfl, h1, h2⟩
def coneS (n : Nt) (node : Int) : List Int := mkdL (mkD n ((List.replicate n.cnt.toNat bl0).set node.toNat ⟨true⟩) n.gs.length) n.cnt.toNat
theorem coneS_rng {n : Nt} (hn : NtOk n) {node : Int} (h0 : 0 ≤ node) : ∀ x ∈ coneS n node, 0 ≤ x ∧ x ≤ node := fun x hx => by
  obtain ⟨i, rfl, h1, h2⟩ := mkdL_mem hx
  have := mkD_le hn (MkLe.startI n.cnt.toNat (b := ⟨true⟩) h0) n.gs.length (Nat.le_refl _) i h2
  omega
theorem coneS_len (n : Nt) (node : Int) (hc : 0 ≤ n.cnt) : ((coneS n node).length : Int) ≤ n.cnt := by
  have := mkdL_len (mkD n ((List.replicate n.cnt.toNat bl0).set node.toNat ⟨true⟩) n.gs.length) n.cnt.toNat
  unfold coneS; omega
structure SInv (s0 : List Sq) (i : Nat) (c : Int) (zs : List Sq) : Prop where
  sk : zs.map sqk = s0.map sqk
  ok : ∀ j, j < i → ∀ x ∈ (zs.getD j sq0).xs, LtOk x c
theorem SInv.start (s0 : List Sq) (c : Int) : SInv s0 0 c s0 := ⟨rfl, fun j hj => absurd hj (by omega)⟩
theorem SInv.len {s0 : List Sq} {i : Nat} {c : Int} {zs : List Sq} (h : SInv s0 i c zs) : zs.length = s0.length := sqk_len h.sk
theorem SInv.step {s0 : List Sq} {i : Nat} {c : Int} {zs : List Sq} (h : SInv s0 i c zs) (hi : i < s0.length) {e : Sq} (he : sqk e = sqk (zs.getD i sq0)) (hx : ∀ x ∈ e.xs, LtOk x c) : SInv s0 (i + 1) c (zs.set i e) := by
  have hl := h.len
  refine ⟨by rw [sqk_set he (by omega)]; exact h.sk, fun j hj => ?_⟩
  by_cases c : i = j
  · subst c; rw [zcg (by omega)]; exact hx
  · rw [List.getD_eq_getElem?_getD, List.getElem?_set_ne c, ← List.getD_eq_getElem?_getD]; exact h.ok j (by omega)
theorem SInv.x4 {s0 : List Sq} {i : Nat} {c : Int} {zs : List Sq} (h : SInv s0 i c zs) (h0 : ∀ s ∈ s0, s.xs.length ≤ 4) {k : Nat} (hk : k < s0.length) : (zs.getD k sq0).xs.length ≤ 4 := by
  have e := map_at' (d := sq0) h.sk hk
  simp only [sqk, Prod.mk.injEq] at e
  rw [e.2.2]; exact h0 _ (zch hk)
theorem SInv.same {s0 : List Sq} {i : Nat} {c : Int} {zs : List Sq} (h : SInv s0 i c zs) {k : Nat} (hk : k < s0.length) : (zs.getD k sq0).xs.length = (s0.getD k sq0).xs.length := by
  have e := map_at' (d := sq0) h.sk hk
  simp only [sqk, Prod.mk.injEq] at e
  exact e.2.2
theorem sqv_x4 {zs ss : List Sq} (h : zs.map sqv = ss.map sqv) (h0 : ∀ s ∈ ss, s.xs.length ≤ 4) : ∀ s ∈ zs, s.xs.length ≤ 4 := fun s hs => by
  obtain ⟨r, hr, he⟩ := map_mem' h hs
  simp only [sqv, Prod.mk.injEq] at he
  rw [← he.2.2]; exact h0 r hr
theorem SInv.all {s0 : List Sq} {i : Nat} {c : Int} {zs : List Sq} (h : SInv s0 i c zs) (hi : i = s0.length) : ∀ s ∈ zs, ∀ x ∈ s.xs, LtOk x c := fun s hs => by
  obtain ⟨j, hj, rfl⟩ := List.mem_iff_getElem.1 hs
  have := h.ok j (by have := h.len; omega)
  rwa [List.getD_eq_getElem?_getD, List.getElem?_eq_getElem hj, Option.getD_some] at this
theorem mpS_len (tos lits : List Int) : (mpS tos lits).length = lits.length := by unfold mpS; rw [List.length_map]
theorem zero_lits {k : Nat} {c : Int} (hc : 0 < c) : ∀ x ∈ List.replicate k (0 : Int), LtOk x c := fun x hx => by rw [List.eq_of_mem_replicate hx]; unfold LtOk; omega
theorem skel_net {n m : Nt} (h : Skel n m) (hm : NtOk m) {zs : List Sq} {gs : List An} {os : List Int} {sv av ov : Value} (hz : zs.map sqk = m.ss.map sqk) (hg : AnsOk n.fst gs) (hgl : gs.length ≤ 300) (hx : ∀ s ∈ zs, ∀ x ∈ s.xs, LtOk x (n.fst + gs.length)) (ho : ∀ x ∈ os, LtOk x (n.fst + gs.length)) (hol : os.length ≤ 16) :
    NtOk (Nt.mk m.ins sv av ov zs gs os) ∧ Skel n (Nt.mk m.ins sv av ov zs gs os) := by
  have hs : Skel n (Nt.mk m.ins sv av ov zs gs os) := ⟨h.ins, hz.trans h.ss⟩
  have hs2 : Skel m (Nt.mk m.ins sv av ov zs gs os) := ⟨rfl, hz⟩
  have hf := hs.fst
  have hc : (Nt.mk m.ins sv av ov zs gs os).cnt = n.fst + gs.length := by show (Nt.mk m.ins sv av ov zs gs os).fst + (gs.length : Int) = _; rw [hf]
  exact ⟨⟨hm.i0, hm.i1, by rw [hs2.len]; exact hm.s1, hgl, hol, hs2.sq hm.sq, fun s hs x hxx => by rw [hc]; exact hx s hs x hxx, fun k hk => by rw [hf]; exact hg k hk, fun x hxx => by rw [hc]; exact ho x hxx⟩, hs⟩
open Go.RowKit
def tInH (v : Value) : Int := match v with | .tuple #[.agg #[.int .i64 i, _, _, _], _] => i | _ => 0
def tSvH (v : Value) : Value := match v with | .tuple #[.agg #[_, x, _, _], _] => x | _ => undef
def tAvH (v : Value) : Value := match v with | .tuple #[.agg #[_, _, x, _], _] => x | _ => undef
def tOvH (v : Value) : Value := match v with | .tuple #[.agg #[_, _, _, x], _] => x | _ => undef
def tXH (v : Value) : Int := match v with | .tuple #[_, .int .i64 i] => i | _ => 0
theorem l08Mark_ret (n : Nt) (bs : List Bl) (v : Value) (w : World) (hr : RdsNt w n) (hn : NtOk n) (hv : RdsW w v 1 bs.length (bs.flatMap blC)) (hbl : (bs.length : Int) = n.cnt) :
   Calls Try.prog 103 #[.agg #[.int .i64 n.ins, n.sv, n.av, n.ov], v] w (Ret w (fun u_ p_ => p_ = [rowE 4 1 u_ (mkD n bs n.gs.length).length ((mkD n bs n.gs.length).flatMap blC)])) := by
 have hi0 := hn.i0
 have hi1 := hn.i1
 have hs1 := hn.s1
 have ha1 := hn.a1
 have ho1 := hn.o1
 have hcnt : n.cnt = 1 + n.ins + n.ss.length + n.gs.length := rfl
 have hfst : n.fst = 1 + n.ins + n.ss.length := rfl
 refine zbf (N := 44) (args := [.agg #[.int .i64 n.ins, n.sv, n.av, n.ov], v]) Try.func103 rfl rfl (srQ ?_)
 refine zdt rfl (zct rfl rfl) ?_
 intro b1
 refine zbb 1 rfl (srQ ?_)
 refine zdu rfl (zcq (s := 1) rfl Try.underlying80 rfl) ?_
 intro g2
 refine zao 1 rfl (zcf (i := 0) (z := .bool false) (bytes := 1) (n' := bs.length) (xs' := (bs.flatMap blC)) rfl rfl rfl rfl Try.underlying80 (by kernel_rfl) rfl rfl rfl rfl (zaa hv) (flat_onesH blC bs (fun r u hu => by simp [blC] at hu; first | (subst hu; rfl) | (rcases hu with rfl | rfl <;> rfl))) (by first | omega | (simp only [List.length_take, List.length_drop]; omega)) (Nat.zero_add _) (List.nil_append _) (fun _ => rfl) ?_)
 intro v3
 refine zbb 1 rfl (zfl (hvQ rfl (fdQ 2 rfl rfl rfl) (hvQ rfl (zag rfl rfl rfl (zad 1 rfl rfl)) (hvQ rfl (lnQ rfl rfl rfl (zaa hr.an)) (hvQ rfl (vsQ rfl rfl rfl) (enQ 1 rfl ?_))))))
 refine zax (zaw ?_)
 refine hc_loop3 (α := Nat) (β := Value) (γ := List Bl) (fun kk gu zs => [rowE 4 1 gu zs.length (zs.flatMap blC), boxE b1 #[.int .i64 n.ins, n.sv, n.av, n.ov] 101]) (fun kk gu zs => [(0, .agg #[.int .i64 n.ins, n.sv, n.av, n.ov]), (1, v), (2, .pointer (some ⟨b1, 0, none⟩)), (4, .slice none 0 0), (5, gu), (6, .int .i64 ((kk : Int) - 1))]) (fun kk gu zs => kk ≤ n.gs.length ∧ zs = mkD n bs (n.gs.length - kk)) (fun kk gu zs => kk) n.gs.length _ bs ⟨Nat.le_refl _, by rw [Nat.sub_self]; rfl⟩ (saQ rfl) (pfQ rfl) ?_
 intro kk gu zs hi4
 obtain ⟨hkk, hz⟩ := hi4
 have hzl : zs.length = bs.length := by rw [hz, mkD_len]
 refine zac (zac (reQ 1 rfl ?_))
 refine zfh rfl rfl rfl rfl rfl rfl (fun h5 => ?_) (fun h5 => ?_)
 ·
  refine ntQ (zan rfl (zcp (sbQ (zac (reQ 1 rfl (hvQ rfl (zar (cs := [.int .i64 n.ins, n.sv, n.av, n.ov]) rfl rfl rfl rfl rfl (zam 1 rfl 0 rfl)) ?_))))))
  refine zdm rfl (zal rfl rfl (fun w hm => zas (zbz n w (hr.below hm.bel) hn))) (zao 1 rfl (hvQ rfl (vaQ rfl rfl rfl) (hvQ rfl (riQ 1 rfl rfl rfl rfl (zah 0 rfl)) ?_)))
  refine hvQ rfl (zat (u := .bool ((zs.getD ((n.fst + ((kk : Int) - 1)).toNat) bl0).b)) rfl rfl rfl (zah 0 rfl) (zbn blC (fun r => .bool r.b) (fun _ => rfl) zs bl0 (show (n.fst + ((kk : Int) - 1)).toNat < _ by omega))) (zbl (fun h6 => ?_) (fun h6 => ?_))
  ·
   have hmk := h6
   refine ntQ (zan rfl (srQ ?_))
   have ha := hn.an ((kk : Int) - 1).toNat (by omega)
   unfold LtOk at ha
   refine zao 1 rfl (hvQ rfl (fdQ 2 rfl rfl rfl) (hvQ rfl (zag rfl rfl rfl (zad 1 rfl rfl)) (zao 1 rfl (hvQ rfl (riQ 2 rfl rfl rfl rfl (zaa hr.an)) (hvQ rfl (zbx (k0 := 0) rfl rfl rfl (zaa hr.an) (by omega)) ?_)))))
   refine hvQ rfl (zat (u := .int .i64 ((n.gs.getD ((((kk : Int) - 1)).toNat) an0).a)) rfl rfl rfl (zaa hr.an) ((zcy anC 2 (fun _ => rfl) n.gs an0 (show (((kk : Int) - 1)).toNat < _ by omega) (by decide)).trans rfl)) (hvQ rfl (zep rfl rfl rfl (by refine ⟨?_, ?_, ?_⟩ <;> omega)) ?_)
   refine hvQ rfl (riQ 1 rfl rfl rfl rfl (zah 0 rfl)) (zcw (i := 0) (n' := (zs.set ((((n.gs.getD ((((kk : Int) - 1)).toNat) an0).a) / 2).toNat) { zs.getD ((((n.gs.getD ((((kk : Int) - 1)).toNat) an0).a) / 2).toNat) bl0 with b := true }).length) rfl rfl rfl rfl rfl rfl rfl rfl (by first | omega | (simp only [List.length_set]; omega)) List.length_set.symm (zdf blC (fun r => .bool r.b) (fun _ => rfl) _ ({ zs.getD ((((n.gs.getD ((((kk : Int) - 1)).toNat) an0).a) / 2).toNat) bl0 with b := true }) rfl) rfl ?_)
   refine ntQ (reQ 1 rfl (hvQ rfl (fdQ 2 rfl rfl rfl) (hvQ rfl (zag rfl rfl rfl (zad 1 rfl rfl)) (zao 1 rfl (hvQ rfl (riQ 2 rfl rfl rfl rfl (zaa hr.an)) (hvQ rfl (zbx (k0 := 1) rfl rfl rfl (zaa hr.an) (by omega)) ?_))))))
   refine hvQ rfl (zat (u := .int .i64 ((n.gs.getD ((((kk : Int) - 1)).toNat) an0).b)) rfl rfl rfl (zaa hr.an) ((zcy anC 2 (fun _ => rfl) n.gs an0 (show (((kk : Int) - 1)).toNat < _ by omega) (by decide)).trans rfl)) (hvQ rfl (zep rfl rfl rfl (by refine ⟨?_, ?_, ?_⟩ <;> omega)) ?_)
   refine hvQ rfl (riQ 1 rfl rfl rfl rfl (zah 0 rfl) (by omega) (by first | omega | (simp only [List.length_set]; omega))) (zcw (i := 0) (n' := ((zs.set ((((n.gs.getD ((((kk : Int) - 1)).toNat) an0).a) / 2).toNat) { zs.getD ((((n.gs.getD ((((kk : Int) - 1)).toNat) an0).a) / 2).toNat) bl0 with b := true }).set ((((n.gs.getD ((((kk : Int) - 1)).toNat) an0).b) / 2).toNat) { (zs.set ((((n.gs.getD ((((kk : Int) - 1)).toNat) an0).a) / 2).toNat) { zs.getD ((((n.gs.getD ((((kk : Int) - 1)).toNat) an0).a) / 2).toNat) bl0 with b := true }).getD ((((n.gs.getD ((((kk : Int) - 1)).toNat) an0).b) / 2).toNat) bl0 with b := true }).length) rfl rfl rfl rfl rfl rfl rfl rfl (by first | omega | (simp only [List.length_set]; omega)) List.length_set.symm (zdf blC (fun r => .bool r.b) (fun _ => rfl) _ ({ (zs.set ((((n.gs.getD ((((kk : Int) - 1)).toNat) an0).a) / 2).toNat) { zs.getD ((((n.gs.getD ((((kk : Int) - 1)).toNat) an0).a) / 2).toNat) bl0 with b := true }).getD ((((n.gs.getD ((((kk : Int) - 1)).toNat) an0).b) / 2).toNat) bl0 with b := true }) rfl) rfl ?_)
   refine zcb (zcv (reQ 1 rfl (hvQ rfl (vsQ rfl rfl rfl) (enQ 1 rfl ?_))))
   have hkn : ((kk : Int) - 1).toNat = kk - 1 := by omega
   have hz2 : (zs.set ((((n.gs.getD ((((kk : Int) - 1)).toNat) an0).a) / 2).toNat) { zs.getD ((((n.gs.getD ((((kk : Int) - 1)).toNat) an0).a) / 2).toNat) bl0 with b := true }).set ((((n.gs.getD ((((kk : Int) - 1)).toNat) an0).b) / 2).toNat) { (zs.set ((((n.gs.getD ((((kk : Int) - 1)).toNat) an0).a) / 2).toNat) { zs.getD ((((n.gs.getD ((((kk : Int) - 1)).toNat) an0).a) / 2).toNat) bl0 with b := true }).getD ((((n.gs.getD ((((kk : Int) - 1)).toNat) an0).b) / 2).toNat) bl0 with b := true } = mkD n bs (n.gs.length - (kk - 1)) := by rw [mkD_next (by omega) hkk]; exact (hz ▸ mkStep_yes (i := kk - 1) (by omega) hmk (by rw [hkn]) (by rw [hkn]))
   exact zbi (kk - 1) gu ((zs.set ((((n.gs.getD ((((kk : Int) - 1)).toNat) an0).a) / 2).toNat) { zs.getD ((((n.gs.getD ((((kk : Int) - 1)).toNat) an0).a) / 2).toNat) bl0 with b := true }).set ((((n.gs.getD ((((kk : Int) - 1)).toNat) an0).b) / 2).toNat) { (zs.set ((((n.gs.getD ((((kk : Int) - 1)).toNat) an0).a) / 2).toNat) { zs.getD ((((n.gs.getD ((((kk : Int) - 1)).toNat) an0).a) / 2).toNat) bl0 with b := true }).getD ((((n.gs.getD ((((kk : Int) - 1)).toNat) an0).b) / 2).toNat) bl0 with b := true }) ⟨by omega, hz2⟩ (by omega) (zbe [5, 4, 2, 1, 0] _ (sk 6 (congrArg (fun x => some (Value.int .i64 x)) (by omega)) (zab _)) rfl) (pfQ rfl)
  have hmk := h6
  refine ntQ (fsQ rfl (zcv (reQ 1 rfl (hvQ rfl (vsQ rfl rfl rfl) (enQ 1 rfl ?_)))))
  have hkn : ((kk : Int) - 1).toNat = kk - 1 := by omega
  have hz2 : zs = mkD n bs (n.gs.length - (kk - 1)) := by rw [mkD_next (by omega) hkk]; exact (hz ▸ mkStep_no (i := kk - 1) (by omega) hmk)
  exact zbi (kk - 1) gu zs ⟨by omega, hz2⟩ (by omega) (zbe [5, 4, 2, 1, 0] _ (sk 6 (congrArg (fun x => some (Value.int .i64 x)) (by omega)) (zab _)) rfl) (pfQ rfl)
 refine ntQ (zaq rfl ?_)
 refine zaz (zdp ?_)
 refine zaf (zax (zbc 2 rfl ?_))
 exact zav (zdc (post := [rowE 4 1 gu zs.length (zs.flatMap blC)]) rfl rfl (slQ [0] rfl) (by rw [hz, show n.gs.length - kk = n.gs.length by omega]))
theorem Reached_ret (n : Nt) (w : World) (hr : RdsNt w n) (hn : NtOk n) :
   Calls Try.prog 99 #[.agg #[.int .i64 n.ins, n.sv, n.av, n.ov]] w (Ret w (fun u_ p_ => ∃ bs' : List Bl, p_ = [rowE 4 1 u_ bs'.length (bs'.flatMap blC)] ∧ bs'.length = n.cnt.toNat)) := by
 have hi0 := hn.i0
 have hi1 := hn.i1
 have hs1 := hn.s1
 have ha1 := hn.a1
 have ho1 := hn.o1
 have hcnt : n.cnt = 1 + n.ins + n.ss.length + n.gs.length := rfl
 have hfst : n.fst = 1 + n.ins + n.ss.length := rfl
 refine zbf (N := 31) (args := [.agg #[.int .i64 n.ins, n.sv, n.av, n.ov]]) Try.func99 rfl rfl (srQ ?_)
 refine zdt rfl (zct rfl rfl) ?_
 intro b1
 refine zbb 1 rfl (zfl (hvQ rfl (zar (cs := [.int .i64 n.ins, n.sv, n.av, n.ov]) rfl rfl rfl rfl rfl (zam 0 rfl 0 rfl)) ?_))
 refine zdm rfl (zal rfl rfl (fun w hm => zas (zds n w (hr.below hm.bel) hn))) (zbb 1 rfl (zaq rfl (zcp (srQ (hvQ rfl (zar (cs := [.int .i64 n.ins, n.sv, n.av, n.ov]) rfl rfl rfl rfl rfl (zam 0 rfl 0 rfl)) ?_)))))
 refine zdm rfl (zal rfl rfl (fun w hm => zas (zbs n w (hr.below hm.bel) hn))) (zdu rfl (zei (z := .bool false) (s := 1) (bytes := 1) (n := (List.replicate (n.cnt).toNat bl0).length) (cs := ((List.replicate (n.cnt).toNat bl0).flatMap blC)) rfl Try.underlying80 rfl (by decide) rfl rfl (by first | (rw [List.length_replicate]; done) | (rw [List.length_replicate]; omega)) (by first | (rw [List.length_replicate]; done) | (rw [List.length_replicate]; omega)) (by rw [List.length_replicate]; omega) (zey blC 1 (fun _ => rfl) bl0 _ rfl (n.cnt).toNat)) ?_)
 intro g2
 refine zbb 1 rfl (srQ (hvQ rfl (zar (cs := [.int .i64 n.ins, n.sv, n.av, n.ov]) rfl rfl rfl rfl rfl (zam 1 rfl 0 rfl)) ?_))
 refine hl_q rfl rfl rfl (zal rfl rfl (fun w hm => l08Roots_ret n w (hr.below hm.bel) hn)) ?_
 intro v3 p4 hR5
 subst hR5
 refine zbb 1 rfl (zac (zbc 1 rfl (zaw ?_)))
 refine lkQ2 (α := Nat) (β := List Bl) [0, 1, 2, 3, 4, 8] rfl (fun q zs => [rowE 3 1 v3 ((rtsL n n.ss.length).length) ((rtsL n n.ss.length).map (Value.int .i64)), rowE 4 1 (.slice (some ⟨g2, 0, none⟩) ((List.replicate (n.cnt).toNat bl0).length) ((List.replicate (n.cnt).toNat bl0).length)) zs.length (zs.flatMap blC), boxE b1 #[.int .i64 n.ins, n.sv, n.av, n.ov] 101]) (fun q zs => [(5, .int .i64 (q : Int))]) (fun q zs => q ≤ (rtsL n n.ss.length).length ∧ zs.length = n.cnt.toNat) (fun q zs => (rtsL n n.ss.length).length - q) 0 _ ⟨Nat.zero_le _, by rw [List.length_replicate]⟩ (saQ rfl) (pfQ rfl) ?_
 intro q zs hi6
 obtain ⟨hq, hzl⟩ := hi6
 refine zac (zac (reQ 2 rfl ?_))
 have hzl9 := rts_len hn n.ss.length (Nat.le_refl _)
 refine hvQ rfl (lnQ rfl rfl rfl (zah 0 rfl)) (zbh rfl rfl rfl rfl rfl rfl (fun h7 => ?_) (fun h7 => ?_))
 ·
  refine ntQ (zan rfl (zcp (sbQ (zay ?_))))
  have hlk := rts_ok hn (i := q) (by omega)
  unfold LtOk at hlk
  refine zao 3 rfl (hvQ rfl (riQ 1 rfl rfl rfl rfl (zah 0 rfl)) (hvQ rfl (zat (u := .int .i64 ((rtsL n n.ss.length).getD q 0)) rfl rfl rfl (zah 0 rfl) (zdi (show _ < (rtsL n n.ss.length).length by omega))) ?_))
  refine hvQ rfl (zep rfl rfl rfl (by refine ⟨?_, ?_, ?_⟩ <;> omega)) ?_
  refine hvQ rfl (riQ 1 rfl rfl rfl rfl (zah 1 rfl)) (zcw (i := 1) (n' := (zs.set ((((rtsL n n.ss.length).getD q 0) / 2).toNat) { zs.getD ((((rtsL n n.ss.length).getD q 0) / 2).toNat) bl0 with b := true }).length) rfl rfl rfl rfl rfl rfl rfl rfl (by first | omega | (simp only [List.length_set]; omega)) List.length_set.symm (zdf blC (fun r => .bool r.b) (fun _ => rfl) _ ({ zs.getD ((((rtsL n n.ss.length).getD q 0) / 2).toNat) bl0 with b := true }) rfl) rfl ?_)
  refine zcb (zcv (reQ 1 rfl (hvQ rfl (vaQ rfl rfl rfl) (enQ 1 rfl ?_))))
  exact zbv (q + 1) (zs.set ((((rtsL n n.ss.length).getD q 0) / 2).toNat) { zs.getD ((((rtsL n n.ss.length).getD q 0) / 2).toNat) bl0 with b := true }) ⟨by omega, by rw [List.length_set]; exact hzl⟩ (by omega) (saQ rfl) (pfQ rfl)
 refine ntQ (zaq rfl ?_)
 refine zaz (zdp ?_)
 refine zaf (zax (srQ (hvQ rfl (zar (cs := [.int .i64 n.ins, n.sv, n.av, n.ov]) rfl rfl rfl rfl rfl (zam 2 rfl 0 rfl)) (zao 1 rfl ?_))))
 refine hl_q rfl rfl rfl (zal rfl rfl (fun w hm => l08Mark_ret n zs _ w (hr.below hm.bel) hn ((zah 1 rfl) w hm) (by first | omega | (simp only [List.length_set, List.length_replicate]; omega)))) ?_
 intro v8 p9 hR10
 subst hR10
 have hb2 : (mkD n zs n.gs.length).length = n.cnt.toNat := by rw [mkD_len]; first | omega | (simp only [List.length_set, List.length_replicate]; done)
 refine zbb 1 rfl ?_
 exact zav (zdc (post := [rowE 4 1 v8 ((mkD n zs n.gs.length).length) ((mkD n zs n.gs.length).flatMap blC)]) rfl rfl (slQ [0] rfl) ⟨_, rfl, hb2⟩)
theorem Cone_ret (n : Nt) (node : Int) (w : World) (hr : RdsNt w n) (hn : NtOk n) (hnd : 0 ≤ node ∧ node < n.cnt) :
   Calls Try.prog 100 #[.agg #[.int .i64 n.ins, n.sv, n.av, n.ov], .int .i64 node] w (Ret w (fun u_ p_ => p_ = [rowE 3 1 u_ (coneS n node).length ((coneS n node).map (Value.int .i64))])) := by
 have hi0 := hn.i0
 have hi1 := hn.i1
 have hs1 := hn.s1
 have ha1 := hn.a1
 have ho1 := hn.o1
 have hcnt : n.cnt = 1 + n.ins + n.ss.length + n.gs.length := rfl
 have hfst : n.fst = 1 + n.ins + n.ss.length := rfl
 refine zbf (N := 47) (args := [.agg #[.int .i64 n.ins, n.sv, n.av, n.ov], .int .i64 node]) Try.func100 rfl rfl (srQ ?_)
 refine zdt rfl (zct rfl rfl) ?_
 intro b1
 refine zbb 1 rfl (srQ ?_)
 refine zdu rfl (zcq (s := 1) rfl Try.underlying26 rfl) ?_
 intro g2
 refine zbb 1 rfl (zfl (hvQ rfl (zar (cs := [.int .i64 n.ins, n.sv, n.av, n.ov]) rfl rfl rfl rfl rfl (zam 1 rfl 0 rfl)) ?_))
 refine zdm rfl (zal rfl rfl (fun w hm => zas (zds n w (hr.below hm.bel) hn))) (zao 3 rfl ?_)
 refine zbh rfl rfl rfl rfl rfl rfl (fun h3 => absurd h3 (by omega)) (fun h3 => ?_)
 refine zao 3 rfl (hvQ rfl (zar (cs := [.int .i64 n.ins, n.sv, n.av, n.ov]) rfl rfl rfl rfl rfl (zam 1 rfl 0 rfl)) ?_)
 refine zdm rfl (zal rfl rfl (fun w hm => zas (zbs n w (hr.below hm.bel) hn))) (zfh rfl rfl rfl rfl rfl rfl (fun h4 => absurd h4 (by omega)) (fun h4 => ?_))
 refine zbb 1 rfl (zaq rfl (zcp (srQ (hvQ rfl (zar (cs := [.int .i64 n.ins, n.sv, n.av, n.ov]) rfl rfl rfl rfl rfl (zam 1 rfl 0 rfl)) ?_))))
 refine zdm rfl (zal rfl rfl (fun w hm => zas (zbs n w (hr.below hm.bel) hn))) (zdu rfl (zei (z := .bool false) (s := 1) (bytes := 1) (n := (List.replicate (n.cnt).toNat bl0).length) (cs := ((List.replicate (n.cnt).toNat bl0).flatMap blC)) rfl Try.underlying80 rfl (by decide) rfl rfl (by first | (rw [List.length_replicate]; done) | (rw [List.length_replicate]; omega)) (by first | (rw [List.length_replicate]; done) | (rw [List.length_replicate]; omega)) (by rw [List.length_replicate]; omega) (zey blC 1 (fun _ => rfl) bl0 _ rfl (n.cnt).toNat)) ?_)
 intro g5
 refine zbb 1 rfl (srQ ?_)
 have hrl : (List.replicate n.cnt.toNat bl0).length = n.cnt.toNat := List.length_replicate
 refine zao 2 rfl (hvQ rfl (riQ 1 rfl rfl rfl rfl (zah 0 rfl)) ?_)
 refine zcw (i := 0) (n' := ((List.replicate (n.cnt).toNat bl0).set ((node).toNat) { (List.replicate (n.cnt).toNat bl0).getD ((node).toNat) bl0 with b := true }).length) rfl rfl rfl rfl rfl rfl rfl rfl (by first | omega | (simp only [List.length_set]; omega)) List.length_set.symm (zdf blC (fun r => .bool r.b) (fun _ => rfl) _ ({ (List.replicate (n.cnt).toNat bl0).getD ((node).toNat) bl0 with b := true }) rfl) rfl (ntQ (srQ (hvQ rfl (zar (cs := [.int .i64 n.ins, n.sv, n.av, n.ov]) rfl rfl rfl rfl rfl (zam 2 rfl 0 rfl)) (zao 1 rfl ?_))))
 refine hl_q rfl rfl rfl (zal rfl rfl (fun w hm => l08Mark_ret n ((List.replicate (n.cnt).toNat bl0).set ((node).toNat) { (List.replicate (n.cnt).toNat bl0).getD ((node).toNat) bl0 with b := true }) _ w (hr.below hm.bel) hn ((zah 0 rfl) w hm) (by first | omega | (simp only [List.length_set, List.length_replicate]; omega)))) ?_
 intro v6 p7 hR8
 subst hR8
 have hb2 : (mkD n ((List.replicate (n.cnt).toNat bl0).set ((node).toNat) { (List.replicate (n.cnt).toNat bl0).getD ((node).toNat) bl0 with b := true }) n.gs.length).length = n.cnt.toNat := by rw [mkD_len]; first | omega | (simp only [List.length_set, List.length_replicate]; done)
 refine zbb 1 rfl (zac (zbc 1 rfl (zaw ?_)))
 refine lkQ3 (α := Nat) (β := Value) (γ := List Int) [0, 1, 2, 4, 6, 21] rfl (fun k gu xs => [rowE 4 1 v6 ((mkD n ((List.replicate (n.cnt).toNat bl0).set ((node).toNat) { (List.replicate (n.cnt).toNat bl0).getD ((node).toNat) bl0 with b := true }) n.gs.length).length) ((mkD n ((List.replicate (n.cnt).toNat bl0).set ((node).toNat) { (List.replicate (n.cnt).toNat bl0).getD ((node).toNat) bl0 with b := true }) n.gs.length).flatMap blC), rowE 4 1 (.slice (some ⟨g5, 0, none⟩) ((List.replicate (n.cnt).toNat bl0).length) ((List.replicate (n.cnt).toNat bl0).length)) (((List.replicate (n.cnt).toNat bl0).set ((node).toNat) { (List.replicate (n.cnt).toNat bl0).getD ((node).toNat) bl0 with b := true }).length) (((List.replicate (n.cnt).toNat bl0).set ((node).toNat) { (List.replicate (n.cnt).toNat bl0).getD ((node).toNat) bl0 with b := true }).flatMap blC), rowE 3 1 gu xs.length (xs.map (Value.int .i64)), boxE b1 #[.int .i64 n.ins, n.sv, n.av, n.ov] 101]) (fun k gu xs => [(5, gu), (7, .int .i64 (k : Int))]) (fun k gu xs => k ≤ n.cnt.toNat ∧ xs = mkdL (mkD n ((List.replicate (n.cnt).toNat bl0).set ((node).toNat) { (List.replicate (n.cnt).toNat bl0).getD ((node).toNat) bl0 with b := true }) n.gs.length) k) (fun k gu xs => n.cnt.toNat - k) 0 _ [] ⟨Nat.zero_le _, rfl⟩ (saQ rfl) (pfQ rfl) ?_
 intro k gu xs hi9
 obtain ⟨hk, hz⟩ := hi9
 have hxl : xs.length ≤ k := by rw [hz]; exact mkdL_len _ _
 refine zac (zac (reQ 2 rfl (hvQ rfl (lnQ rfl rfl rfl (zah 0 rfl)) ?_)))
 refine zbh rfl rfl rfl rfl rfl rfl (fun h10 => ?_) (fun h10 => ?_)
 ·
  refine ntQ (zan rfl (zcp (sbQ (zac (reQ 2 rfl (hvQ rfl (riQ 1 rfl rfl rfl rfl (zah 0 rfl) (by omega) (by first | omega | (simp only [List.length_set]; omega))) ?_))))))
  refine hvQ rfl (zat (u := .bool (((mkD n ((List.replicate (n.cnt).toNat bl0).set ((node).toNat) { (List.replicate (n.cnt).toNat bl0).getD ((node).toNat) bl0 with b := true }) n.gs.length).getD k bl0).b)) rfl rfl rfl (zah 0 rfl) (zbn blC (fun r => .bool r.b) (fun _ => rfl) (mkD n ((List.replicate (n.cnt).toNat bl0).set ((node).toNat) { (List.replicate (n.cnt).toNat bl0).getD ((node).toNat) bl0 with b := true }) n.gs.length) bl0 (show k < _ by first | omega | (simp only [List.length_set]; omega)))) (zbl (fun h11 => ?_) (fun h11 => ?_))
  ·
   have hmk := h11
   refine ntQ (zan rfl (reQ 2 rfl ?_))
   refine zdu rfl (zau (z := .int .i64 0) (s := 1) (cs := ([(k : Int)].map (Value.int .i64))) rfl Try.underlying26 rfl (by decide) rfl (by kernel_rfl) rfl) ?_
   intro g12
   refine zcf (i := 3) (z := .int .i64 0) (bytes := 8) rfl rfl rfl rfl Try.underlying26 (by kernel_rfl) rfl rfl rfl rfl (zah 0 rfl) (zbw _) (by first | omega | (simp; done) | (simp; omega)) (zbt xs ([(k : Int)])) (zcn xs ([(k : Int)])) (fun _ => rfl) ?_
   intro v13
   refine enQ 1 rfl (zcv (reQ 1 rfl (hvQ rfl (vaQ rfl rfl rfl) (enQ 1 rfl ?_))))
   exact zbi (k + 1) v13 (xs ++ ([(k : Int)])) ⟨by omega, by rw [hz]; exact mkdL_yes hmk⟩ (by omega) (saQ rfl) (slQ [1, 0, 0, 0] rfl)
  have hmk := h11
  refine ntQ (fsQ rfl (zcv (reQ 1 rfl (hvQ rfl (vaQ rfl rfl rfl) (enQ 1 rfl ?_)))))
  exact zbi (k + 1) gu xs ⟨by omega, by rw [hz]; exact mkdL_no hmk⟩ (by omega) (saQ rfl) (pfQ rfl)
 refine ntQ (zaq rfl ?_)
 refine zaz (zdp ?_)
 refine zaf (zax (zbc 2 rfl ?_))
 exact zav (zdc (post := [rowE 3 1 gu xs.length (xs.map (Value.int .i64))]) rfl rfl (slQ [2] rfl) (by rw [hz, show k = n.cnt.toNat by omega]; rfl))
theorem built_netH2 (x0 : Int) (x1 : Value) (h1 : x1.oneCell' = true) : Try.prog.built 101 [(0, .int .i64 x0), (1, x1)] = some #[.int .i64 x0, x1, .slice none 0 0, .slice none 0 0] := by
  (cases x1 <;> first | (exact absurd h1 Bool.false_ne_true) | kernel_rfl)
theorem l10Empty_ret (n : Nt) (w : World) (hr : RdsNt w n) (hn : NtOk n) :
   Calls Try.prog 74 #[.agg #[.int .i64 n.ins, n.sv, n.av, n.ov]] w (Ret w (fun u_ p_ => ∃ (ps : List HP) (m : Nt) (tv : Value), u_ = .tuple #[m.agg, tv] ∧ p_ = [rowE 35 3 m.sv m.ss.length (m.ss.flatMap sqC), rowE 3 1 tv (evs2 n.fst.toNat).length ((evs2 n.fst.toNat).map (Value.int .i64)), bigE ps] ∧ (∀ w, (bigE ps).holds w → RdsSqs w m.ss) ∧ m.sv.oneCell' = true ∧ (m.av = .slice none 0 0 ∧ m.ov = .slice none 0 0 ∧ m.gs = [] ∧ m.os = []) ∧ Skel n m ∧ NtOk m)) := by
 have hi0 := hn.i0
 have hi1 := hn.i1
 have hs1 := hn.s1
 have ha1 := hn.a1
 have ho1 := hn.o1
 have hcnt : n.cnt = 1 + n.ins + n.ss.length + n.gs.length := rfl
 have hfst : n.fst = 1 + n.ins + n.ss.length := rfl
 refine zbf (N := 48) (args := [.agg #[.int .i64 n.ins, n.sv, n.av, n.ov]]) Try.func74 rfl rfl (srQ ?_)
 refine zdt rfl (zct rfl rfl) ?_
 intro b1
 refine zdt rfl (zbm (z := .agg #[.int .i64 0, .slice none 0 0, .slice none 0 0, .slice none 0 0]) rfl rfl) ?_
 intro b2
 refine zbb 1 rfl (zac ?_)
 refine zdo rfl 7 [0, 1, 2, 3, 4, 5, 6] (List.take 7 _) (List.drop 7 _) [[], [0], [], [2], [3], [1, 4], []] [8, 9, 10, 11, 12, 13, 4] (fun i_ vs_ v_ p_ => match i_ with | 0 => v_ = .pointer (some ⟨b1, 0 + 0, none⟩) ∧ p_ = [] | 1 => v_ = .int .i64 n.ins ∧ p_ = [] | 2 => v_ = .pointer (some ⟨b1, 0 + 1, none⟩) ∧ p_ = [] | 3 => v_ = n.sv ∧ p_ = [] | 4 => (fun u_ p_ => ∃ (ps : List HP) (zs : List Sq), p_ = [rowE 35 3 u_ zs.length (zs.flatMap sqC), bigE ps] ∧ (∀ w, (bigE ps).holds w → RdsSqs w zs) ∧ zs.map sqv = n.ss.map sqv) v_ p_ | 5 => v_ = .agg #[.int .i64 n.ins, (List.getD vs_ 1 undef), .slice none 0 0, .slice none 0 0] ∧ p_ = [] | 6 => IsBox #[.int .i64 0, .slice none 0 0, .slice none 0 0, .slice none 0 0] 101 v_ p_ | _ => True) (List.take_append_drop 7 _).symm (by kernel_rfl) (by kernel_rfl) rfl rfl ?_ ?_
 ·
  refine ⟨?_, ?_, ?_, ?_, ?_, ?_, ?_, trivial⟩
  ·
   intro vf pf hR
   exact ovQ rfl (zai [1] rfl) (zbd (fdQ 0 rfl rfl rfl))
  ·
   intro vf pf hR
   have e0 := hR 0 (by decide)
   exact olQ rfl (sk 8 (congrArg some e0.1) (zab _)) (zbd (zag rfl rfl rfl (zad 1 rfl rfl)))
  ·
   intro vf pf hR
   exact ovQ rfl (zai [1] rfl) (zbd (fdQ 1 rfl rfl rfl))
  ·
   intro vf pf hR
   have e2 := hR 2 (by decide)
   exact olQ rfl (sk 10 (congrArg some e2.1) (zab _)) (zbd (zag rfl rfl rfl (zad 1 rfl rfl)))
  ·
   intro vf pf hR
   have e3 := hR 3 (by decide)
   exact olQ rfl (sk 11 (congrArg some e3.1) (zab _)) (zal rfl rfl (fun w hm => l08CopySeqs_ret n.ss _ w (hr.sq.below hm.bel) (fun s hs => (hr.xs s hs).below hm.bel) hn.s1 (fun s hs => (hn.sq s hs).len)))
  ·
   intro vf pf hR
   have e1 := hR 1 (by decide)
   have e4 : (fun u_ p_ => ∃ (ps : List HP) (zs : List Sq), p_ = [rowE 35 3 u_ zs.length (zs.flatMap sqC), bigE ps] ∧ (∀ w, (bigE ps).holds w → RdsSqs w zs) ∧ zs.map sqv = n.ss.map sqv) (vf 4) (pf 4) := hR 4 (by decide)
   obtain ⟨v3, vE4⟩ : ∃ x, vf 4 = x := ⟨_, rfl⟩
   obtain ⟨p4, pE4⟩ : ∃ x, pf 4 = x := ⟨_, rfl⟩
   have hR5 := e4
   rw [vE4, pE4] at hR5
   obtain ⟨ps, z0, rfl, hps, hz0⟩ := hR5
   have hz0l := sqv_len hz0
   refine Or.inl ⟨rfl, ?_⟩
   exact zcc (sk 9 (congrArg some e1.1) (sk 12 (congrArg some vE4) (zab _))) (by simp only [pE4, vE4, e1.2, fS] <;> rfl) (zco (zbd (zfj (cs := #[.int .i64 n.ins, v3, .slice none 0 0, .slice none 0 0]) rfl rfl (fun w hm => built_netH2 n.ins v3 ((zah 0 rfl w hm).one)))) (fun _ _ h => ⟨h.1.trans (by show _ = (.agg #[.int .i64 n.ins, (vf 4), .slice none 0 0, .slice none 0 0] : Value); first | (rw [vE4]; done) | (rw [vE4]; rfl)), h.2⟩))
  intro vf pf hR
  exact olQ rfl (zab _) (zbm (z := .agg #[.int .i64 0, .slice none 0 0, .slice none 0 0, .slice none 0 0]) rfl rfl)
 intro vf pf hR
 have e4 : (fun u_ p_ => ∃ (ps : List HP) (zs : List Sq), p_ = [rowE 35 3 u_ zs.length (zs.flatMap sqC), bigE ps] ∧ (∀ w, (bigE ps).holds w → RdsSqs w zs) ∧ zs.map sqv = n.ss.map sqv) (vf 4) (pf 4) := hR 4 (by decide)
 obtain ⟨v3, vE4⟩ : ∃ x, vf 4 = x := ⟨_, rfl⟩
 obtain ⟨p4, pE4⟩ : ∃ x, pf 4 = x := ⟨_, rfl⟩
 have hR5 := e4
 rw [vE4, pE4] at hR5
 obtain ⟨ps, z0, rfl, hps, hz0⟩ := hR5
 have hz0l := sqv_len hz0
 have e5 : (vf 5) = .agg #[.int .i64 n.ins, (vf 4), .slice none 0 0, .slice none 0 0] ∧ (pf 5) = [] := hR 5 (by decide)
 rw [vE4] at e5
 have e6 : IsBox #[.int .i64 0, .slice none 0 0, .slice none 0 0, .slice none 0 0] 101 (vf 6) (pf 6) := hR 6 (by decide)
 obtain ⟨b6, vE6, pE6⟩ := e6
 have q0 := hR 0 (by decide)
 have q1 := hR 1 (by decide)
 have q2 := hR 2 (by decide)
 have q3 := hR 3 (by decide)
 have q5 := hR 5 (by decide)
 refine zce (zbe [3, 2, 1, 0] _ (sk 4 (congrArg some vE6) (sk 13 (congrArg some e5.1) (zab _))) rfl) (by simp only [pE4, vE4, pE6, vE6, q0.2, q1.2, q2.2, q3.2, q5.2, fS] <;> rfl) ?_
 simp only [List.drop_succ_cons, List.drop_zero]
 refine zcr (i := 0) rfl (fun ho7 => ?_)
 refine zbr (cs' := #[.int .i64 n.ins, v3, .slice none 0 0, .slice none 0 0]) (i := 2) (off := 0) (us := [.int .i64 n.ins, v3, .slice none 0 0, .slice none 0 0]) rfl rfl rfl rfl rfl rfl rfl (zae rfl (zae ho7 (zae rfl (zae rfl zbj)))) rfl rfl rfl (ntQ (srQ ?_))
 refine zdu rfl (zcq (s := 1) rfl Try.underlying26 rfl) ?_
 intro g8
 refine zbb 1 rfl (zac (zbc 1 rfl (zaw ?_)))
 refine lkQ2 (α := Nat) (β := Value) [0, 1, 2, 3, 4] rfl (fun k tv => [rowE 3 1 tv ((evs2 k).length) ((evs2 k).map (Value.int .i64)), rowE 35 3 v3 z0.length (z0.flatMap sqC), bigE ps, boxE b6 #[.int .i64 n.ins, v3, .slice none 0 0, .slice none 0 0] 101, boxE b2 #[.int .i64 0, .slice none 0 0, .slice none 0 0, .slice none 0 0] 101, boxE b1 #[.int .i64 n.ins, n.sv, n.av, n.ov] 101]) (fun k tv => [(5, tv), (6, .int .i64 (k : Int))]) (fun k tv => (k : Int) ≤ n.fst) (fun k tv => n.fst.toNat - k) 0 _ (by omega) (saQ rfl) (pfQ rfl) ?_
 intro k tv hi9
 have hk := hi9
 have hek := evs2_len k
 refine zac (zac (reQ 1 rfl (hvQ rfl (zar (cs := [.int .i64 n.ins, n.sv, n.av, n.ov]) rfl rfl rfl rfl rfl (zam 5 rfl 0 rfl)) ?_)))
 refine zdm rfl (zal rfl rfl (fun w hm => zas (zbz n w (hr.below hm.bel) hn))) (zbh rfl rfl rfl rfl rfl rfl (fun h10 => ?_) (fun h10 => ?_))
 ·
  refine ntQ (zan rfl (zcp (sbQ (reQ 2 rfl (hvQ rfl (zfe rfl rfl rfl (by constructor <;> omega)) ?_)))))
  refine zdu rfl (zau (z := .int .i64 0) (s := 1) (cs := ([2 * (k : Int)].map (Value.int .i64))) rfl Try.underlying26 rfl (by decide) rfl (by kernel_rfl) rfl) ?_
  intro g11
  refine zcf (i := 1) (z := .int .i64 0) (bytes := 8) rfl rfl rfl rfl Try.underlying26 (by kernel_rfl) rfl rfl rfl rfl (zah 0 rfl) (zbw _) (by first | omega | (simp; done) | (simp; omega)) (zbt (evs2 k) ([2 * (k : Int)])) (zcn (evs2 k) ([2 * (k : Int)])) (fun _ => rfl) ?_
  intro v12
  refine enQ 1 rfl (zcv (reQ 1 rfl (hvQ rfl (vaQ rfl rfl rfl) (enQ 1 rfl ?_))))
  exact hq_eqL (l' := [rowE 3 1 (.slice (some ⟨g11, 0, none⟩) 1 1) 1 ([2 * (k : Int)].map (Value.int .i64)), rowE 3 1 v12 ((evs2 (k + 1)).length) ((evs2 (k + 1)).map (Value.int .i64)), rowE 35 3 v3 z0.length (z0.flatMap sqC), bigE ps, boxE b6 #[.int .i64 n.ins, v3, .slice none 0 0, .slice none 0 0] 101, boxE b2 #[.int .i64 0, .slice none 0 0, .slice none 0 0, .slice none 0 0] 101, boxE b1 #[.int .i64 n.ins, n.sv, n.av, n.ov] 101]) (by rw [evs2_step]) (zbv (k + 1) v12 (by omega) (by omega) (saQ rfl) (slQ [1, 0, 0, 0, 0, 0] rfl))
 refine ntQ (zaq rfl ?_)
 refine zaz (zdp ?_)
 refine zaf (zax (zac (zbc 1 rfl (zaw ?_))))
 refine lkQ3 (α := Nat) (β := List Sq) (γ := List HP) [0, 1, 2, 3, 4, 5, 6, 18] rfl (fun i9 zs ps2 => [rowE 3 1 tv ((evs2 k).length) ((evs2 k).map (Value.int .i64)), rowE 35 3 v3 zs.length (zs.flatMap sqC), bigE ps2, boxE b6 #[.int .i64 n.ins, v3, .slice none 0 0, .slice none 0 0] 101, boxE b2 #[.int .i64 0, .slice none 0 0, .slice none 0 0, .slice none 0 0] 101, boxE b1 #[.int .i64 n.ins, n.sv, n.av, n.ov] 101]) (fun i9 zs ps2 => [(7, .int .i64 (i9 : Int))]) (fun i9 zs ps2 => i9 ≤ z0.length ∧ SInv z0 i9 n.fst zs ∧ ∀ w, (bigE ps2).holds w → RdsSqs w zs) (fun i9 zs ps2 => z0.length - i9) 0 z0 _ ⟨Nat.zero_le _, SInv.start _ _, hps⟩ (saQ rfl) (pfQ rfl) ?_
 intro i9 zs ps2 hi13
 obtain ⟨hi9, hsi, hps2⟩ := hi13
 have hzl := hsi.len
 refine zac (zac (reQ 1 rfl (hvQ rfl (fdQ 1 rfl rfl rfl) (hvQ rfl (zag rfl rfl rfl (zad 3 rfl rfl)) (hvQ rfl (lnQ rfl rfl rfl (zah 1 rfl)) ?_)))))
 refine zbh rfl rfl rfl rfl rfl rfl (fun h14 => ?_) (fun h14 => ?_)
 ·
  refine ntQ (zan rfl (zcp (sbQ ?_)))
  have h4z := hsi.x4 (sqv_x4 hz0 (fun s hs => (hn.sq s hs).len)) (k := i9) (by omega)
  refine zdo rfl 13 [0, 1, 2, 3, 4, 5, 6, 7, 8, 9, 10, 11, 12] (List.take 13 _) (List.drop 13 _) [[], [0], [], [], [3], [], [4, 5], [6], [7], [8], [9], [1, 2], [11]] [33, 34, 35, 36, 37, 38, 39, 40, 41, 42, 43, 44, 45] (fun i_ vs_ v_ p_ => match i_ with | 0 => v_ = .pointer (some ⟨b6, 0 + 1, none⟩) ∧ p_ = [] | 1 => v_ = v3 ∧ p_ = [] | 2 => v_ = .int .i64 (i9 : Int) ∧ p_ = [] | 3 => v_ = .pointer (some ⟨b6, 0 + 1, none⟩) ∧ p_ = [] | 4 => v_ = v3 ∧ p_ = [] | 5 => v_ = .int .i64 (i9 : Int) ∧ p_ = [] | 6 => v_ = elP v3 (((i9 : Int)).toNat * 3) ∧ p_ = [] | 7 => v_ = elP v3 (((i9 : Int)).toNat * 3 + 2) ∧ p_ = [] | 8 => v_ = (zs.getD i9 sq0).iv ∧ p_ = [] | 9 => v_ = .int .i64 (((zs.getD i9 sq0).xs).length : Int) ∧ p_ = [] | 10 => IsRow 3 1 ((List.replicate (((zs.getD i9 sq0).xs).length) (0 : Int)).length) ((List.replicate (((zs.getD i9 sq0).xs).length) (0 : Int)).map (Value.int .i64)) v_ p_ | 11 => v_ = elP v3 (((i9 : Int)).toNat * 3) ∧ p_ = [] | 12 => v_ = elP v3 (((i9 : Int)).toNat * 3 + 2) ∧ p_ = [] | _ => True) (List.take_append_drop 13 _).symm (by kernel_rfl) (by kernel_rfl) rfl rfl ?_ ?_
  ·
   refine ⟨?_, ?_, ?_, ?_, ?_, ?_, ?_, ?_, ?_, ?_, ?_, ?_, ?_, trivial⟩
   ·
    intro vf pf hR
    exact ovQ rfl (zai [4] rfl) (zbd (fdQ 1 rfl rfl rfl))
   ·
    intro vf pf hR
    have e0 := hR 0 (by decide)
    exact olQ rfl (sk 33 (congrArg some e0.1) (zab _)) (zbd (zag rfl rfl rfl (zad 3 rfl rfl)))
   ·
    intro vf pf hR
    exact ovQ rfl (zai [7] rfl) (zbd (zaj rfl))
   ·
    intro vf pf hR
    exact ovQ rfl (zai [4] rfl) (zbd (fdQ 1 rfl rfl rfl))
   ·
    intro vf pf hR
    have e3 := hR 3 (by decide)
    exact olQ rfl (sk 36 (congrArg some e3.1) (zab _)) (zbd (zag rfl rfl rfl (zad 3 rfl rfl)))
   ·
    intro vf pf hR
    exact ovQ rfl (zai [7] rfl) (zbd (zaj rfl))
   ·
    intro vf pf hR
    have e4 := hR 4 (by decide)
    have e5 := hR 5 (by decide)
    exact olQ rfl (sk 37 (congrArg some e4.1) (sk 38 (congrArg some e5.1) (zab _))) (zbd (riQ 3 rfl rfl rfl rfl (zah 1 rfl)))
   ·
    intro vf pf hR
    have e6 := hR 6 (by decide)
    exact olQ rfl (sk 39 (congrArg some e6.1) (zab _)) (zbd (zbx (k0 := 2) rfl rfl rfl (zah 1 rfl) (by omega)))
   ·
    intro vf pf hR
    have e7 := hR 7 (by decide)
    exact olQ rfl (sk 40 (congrArg some e7.1) (zab _)) (zbd (zat (u := (zs.getD i9 sq0).iv) rfl rfl rfl (zah 1 rfl) ((zcy sqC 3 (fun _ => rfl) zs sq0 (show i9 < _ by omega) (by decide)).trans rfl)))
   ·
    intro vf pf hR
    have e8 := hR 8 (by decide)
    exact olQ rfl (sk 41 (congrArg some e8.1) (zab _)) (zbd (lnQ rfl rfl rfl (fun w hm => ((hps2 w (hm.holds _ (zby (i := 2) rfl)))).at (k := i9) (by omega))))
   ·
    intro vf pf hR
    have e9 := hR 9 (by decide)
    exact olQ rfl (sk 42 (congrArg some e9.1) (zab _)) (zei (z := .int .i64 0) (s := 1) (bytes := 8) (n := (List.replicate (((zs.getD i9 sq0).xs).length) (0 : Int)).length) (cs := ((List.replicate (((zs.getD i9 sq0).xs).length) (0 : Int)).map (Value.int .i64))) rfl Try.underlying26 rfl (by decide) rfl rfl (by first | (rw [List.length_replicate]; done) | (rw [List.length_replicate]; omega)) (by first | (rw [List.length_replicate]; done) | (rw [List.length_replicate]; omega)) (by rw [List.length_replicate]; omega) (zez _))
   ·
    intro vf pf hR
    have e1 := hR 1 (by decide)
    have e2 := hR 2 (by decide)
    exact olQ rfl (sk 34 (congrArg some e1.1) (sk 35 (congrArg some e2.1) (zab _))) (zbd (riQ 3 rfl rfl rfl rfl (zah 1 rfl)))
   intro vf pf hR
   have e11 := hR 11 (by decide)
   exact olQ rfl (sk 44 (congrArg some e11.1) (zab _)) (zbd (zbx (k0 := 2) rfl rfl rfl (zah 1 rfl) (by omega)))
  intro vf pf hR
  have e10 : IsRow 3 1 ((List.replicate (((zs.getD i9 sq0).xs).length) (0 : Int)).length) ((List.replicate (((zs.getD i9 sq0).xs).length) (0 : Int)).map (Value.int .i64)) (vf 10) (pf 10) := hR 10 (by decide)
  obtain ⟨g15, vE10, pE10⟩ := e10
  have e12 := hR 12 (by decide)
  have q0 := hR 0 (by decide)
  have q1 := hR 1 (by decide)
  have q2 := hR 2 (by decide)
  have q3 := hR 3 (by decide)
  have q4 := hR 4 (by decide)
  have q5 := hR 5 (by decide)
  have q6 := hR 6 (by decide)
  have q7 := hR 7 (by decide)
  have q8 := hR 8 (by decide)
  have q9 := hR 9 (by decide)
  have q11 := hR 11 (by decide)
  have q12 := hR 12 (by decide)
  refine zce (zbe [30, 18, 7, 6, 5, 4, 3, 2, 1, 0] _ (sk 43 (congrArg some vE10) (sk 45 (congrArg some e12.1) (zab _))) rfl) (by simp only [pE10, vE10, q0.2, q1.2, q2.2, q3.2, q4.2, q5.2, q6.2, q7.2, q8.2, q9.2, q11.2, q12.2, fS] <;> rfl) ?_
  simp only [List.drop_succ_cons, List.drop_zero]
  refine zcw (i := 2) (n' := (zs.set i9 (Sq.mk (zs.getD i9 sq0).kd (zs.getD i9 sq0).it (.slice (some ⟨g15, 0, none⟩) ((List.replicate (((zs.getD i9 sq0).xs).length) (0 : Int)).length) ((List.replicate (((zs.getD i9 sq0).xs).length) (0 : Int)).length)) (List.replicate (((zs.getD i9 sq0).xs).length) (0 : Int)))).length) (xs' := ((zs.set i9 (Sq.mk (zs.getD i9 sq0).kd (zs.getD i9 sq0).it (.slice (some ⟨g15, 0, none⟩) ((List.replicate (((zs.getD i9 sq0).xs).length) (0 : Int)).length) ((List.replicate (((zs.getD i9 sq0).xs).length) (0 : Int)).length)) (List.replicate (((zs.getD i9 sq0).xs).length) (0 : Int)))).flatMap sqC)) rfl rfl rfl rfl rfl rfl rfl rfl (by first | omega | (simp only [List.length_set]; omega)) List.length_set.symm (flat_set sqC 3 (fun _ => rfl) _ sq0 _ (by first | omega | (simp only [List.length_set]; omega)) (by decide) rfl) rfl (zcb (zcv (reQ 1 rfl (hvQ rfl (vaQ rfl rfl rfl) (enQ 1 rfl ?_)))))
  refine zbo 7 [6, 5, 4, 2, 1, 0, 3] rfl rfl (by decide) ?_
  refine zcx 2 rfl ?_
  refine zbo 6 [5, 4, 3, 0, 2, 1] rfl rfl (by decide) ?_
  exact zbi (i9 + 1) (zs.set i9 (Sq.mk (zs.getD i9 sq0).kd (zs.getD i9 sq0).it (.slice (some ⟨g15, 0, none⟩) ((List.replicate (((zs.getD i9 sq0).xs).length) (0 : Int)).length) ((List.replicate (((zs.getD i9 sq0).xs).length) (0 : Int)).length)) (List.replicate (((zs.getD i9 sq0).xs).length) (0 : Int)))) [bigE ps2, rowE 3 1 (.slice (some ⟨g15, 0, none⟩) ((List.replicate (((zs.getD i9 sq0).xs).length) (0 : Int)).length) ((List.replicate (((zs.getD i9 sq0).xs).length) (0 : Int)).length)) ((List.replicate (((zs.getD i9 sq0).xs).length) (0 : Int)).length) ((List.replicate (((zs.getD i9 sq0).xs).length) (0 : Int)).map (Value.int .i64))] ⟨by omega, hsi.step (by omega) (by show (_, _, (List.replicate _ (0 : Int)).length) = _; rw [List.length_replicate]; rfl) (zero_lits (by omega)), fun w hw => (hps2 w (zba hw List.mem_cons_self)).set (zbp (zba hw (List.mem_cons_of_mem _ List.mem_cons_self)))⟩ (by omega) (saQ rfl) (pfQ rfl)
 refine ntQ (zaq rfl ?_)
 refine zaz (zdp ?_)
 refine zaf (zax (srQ (hvQ rfl (zar (cs := [.int .i64 n.ins, v3, .slice none 0 0, .slice none 0 0]) rfl rfl rfl rfl rfl (zam 3 rfl 0 rfl)) (zao 1 rfl ?_))))
 refine zbr (cs' := #[.int .i64 n.ins, v3, .slice none 0 0, .slice none 0 0]) (i := 4) (off := 0) (us := [.int .i64 n.ins, v3, .slice none 0 0, .slice none 0 0]) rfl rfl rfl rfl rfl rfl rfl (zae rfl (zae ho7 (zae rfl (zae rfl zbj)))) rfl rfl rfl (zbb 1 rfl ?_)
 refine zav ?_
 have hkf : k = n.fst.toNat := by omega
 subst hkf
 refine zdv (fun w hm => (zah 1 rfl w hm).one) (fun ho1 => ?_)
 have hfin := skel_net (n := n) (m := n) (sv := v3) (av := .slice none 0 0) (ov := .slice none 0 0) (zs := zs) (gs := []) (os := []) ⟨rfl, rfl⟩ hn (hsi.sk.trans (sqk_of_sqv hz0)) (fun k hk => absurd hk (Nat.not_lt_zero _)) (by simp) (by have h9 := hsi.all (by omega); simpa using h9) (by simp) (by simp)
 refine zbo 6 [5, 4, 3, 2, 0, 1] rfl rfl (by decide) ?_
 exact zdn (rs := [.cell 2 101, .tmp 3]) (vs := [.agg #[.int .i64 n.ins, v3, .slice none 0 0, .slice none 0 0], tv]) (post := [rowE 35 3 v3 zs.length (zs.flatMap sqC), rowE 3 1 tv ((evs2 n.fst.toNat).length) ((evs2 n.fst.toNat).map (Value.int .i64)), bigE ps2]) rfl ⟨⟨b2, 0, [.int .i64 n.ins, v3, .slice none 0 0, .slice none 0 0], rfl, rfl, by kernel_rfl, by kernel_rfl, zam 4 rfl 0 rfl⟩, rfl, trivial⟩ rfl (slQ [0, 0, 0] rfl) ⟨_, (Nt.mk n.ins v3 (.slice none 0 0) (.slice none 0 0) zs [] []), _, rfl, rfl, hps2, ho1, ⟨rfl, rfl, rfl, rfl⟩, hfin.2, hfin.1⟩
open Go.RowKit
theorem MapOk.two {tos : List Int} {c m : Int} (h : MapOk tos c m) {a b : Int} (ha : LtOk a c) (hb : LtOk b c) : LtOk ((mpS tos [a, b]).getD 0 0) m ∧ LtOk ((mpS tos [a, b]).getD 1 0) m := ⟨(h.lit ha).2, (h.lit hb).2⟩
theorem two_lits {c a b : Int} (ha : LtOk a c) (hb : LtOk b c) : ∀ x ∈ [a, b], LtOk x c := fun x hx => by
  rcases List.mem_cons.1 hx with rfl | hx
  · exact ha
  · rw [List.mem_singleton] at hx; subst hx; exact hb
theorem skel_x {n m : Nt} (h : Skel n m) {k : Nat} (hk : k < m.ss.length) : (m.ss.getD k sq0).xs.length = (n.ss.getD k sq0).xs.length := by
  have e := map_at' (d := sq0) h.ss (k := k) (by rw [← h.len]; exact hk)
  simp only [sqk, Prod.mk.injEq] at e
  exact e.2.2
theorem Sweep_ret (n : Nt) (w : World) (hr : RdsNt w n) (hn : NtOk n) :
   Calls Try.prog 92 #[.agg #[.int .i64 n.ins, n.sv, n.av, n.ov]] w (Ret w (fun u_ p_ => ∃ (ps : List HP) (m : Nt), u_ = m.agg ∧ p_ = [bigE ps] ∧ (∀ w, (bigE ps).holds w → RdsNt w m) ∧ (m.sv.oneCell' = true ∧ m.av.oneCell' = true ∧ m.ov.oneCell' = true) ∧ NtOk m ∧ Skel n m ∧ m.gs.length ≤ n.gs.length)) := by
 have hi0 := hn.i0
 have hi1 := hn.i1
 have hs1 := hn.s1
 have ha1 := hn.a1
 have ho1 := hn.o1
 have hcnt : n.cnt = 1 + n.ins + n.ss.length + n.gs.length := rfl
 have hfst : n.fst = 1 + n.ins + n.ss.length := rfl
 refine zbf (N := 101) (args := [.agg #[.int .i64 n.ins, n.sv, n.av, n.ov]]) Try.func92 rfl rfl (srQ ?_)
 refine zdt rfl (zct rfl rfl) ?_
 intro b1
 refine zdt rfl (zbm (z := .agg #[.int .i64 0, .slice none 0 0, .slice none 0 0, .slice none 0 0]) rfl rfl) ?_
 intro b2
 refine ntQ (zfl (hvQ rfl (zar (cs := [.int .i64 n.ins, n.sv, n.av, n.ov]) rfl rfl rfl rfl rfl (zam 1 rfl 0 rfl)) ?_))
 refine zdm rfl (zal rfl rfl (fun w hm => zas (zds n w (hr.below hm.bel) hn))) (zbb 1 rfl (zaq rfl (zcp (srQ (hvQ rfl (zar (cs := [.int .i64 n.ins, n.sv, n.av, n.ov]) rfl rfl rfl rfl rfl (zam 1 rfl 0 rfl)) ?_)))))
 refine hl_q rfl rfl rfl (zal rfl rfl (fun w hm => Reached_ret n w (hr.below hm.bel) hn)) ?_
 intro v3 p4 hR5
 obtain ⟨bs, rfl, hbl⟩ := hR5
 refine zbb 1 rfl (srQ (hvQ rfl (zar (cs := [.int .i64 n.ins, n.sv, n.av, n.ov]) rfl rfl rfl rfl rfl (zam 2 rfl 0 rfl)) ?_))
 refine hl_q rfl rfl rfl (zal rfl rfl (fun w hm => l10Empty_ret n w (hr.below hm.bel) hn)) ?_
 intro v6 p7 hR8
 obtain ⟨ps, m, tv, rfl, rfl, hps, o1m, ⟨hav, hov, hgs0, hos0⟩, hsk, hmok⟩ := hR8
 simp only [Nt.agg, hav, hov]
 have hskl : m.ss.length = n.ss.length := hsk.len
 refine zao 3 rfl (zdt rfl (zbm (z := .agg #[.int .i64 0, .slice none 0 0, .slice none 0 0, .slice none 0 0]) rfl rfl) ?_)
 intro b9
 refine zbr (cs' := #[.int .i64 m.ins, m.sv, .slice none 0 0, .slice none 0 0]) (i := 0) (off := 0) (us := [.int .i64 m.ins, m.sv, .slice none 0 0, .slice none 0 0]) rfl rfl rfl rfl rfl rfl rfl (zae rfl (zae o1m (zae rfl (zae rfl zbj)))) rfl rfl rfl (zbb 1 rfl (srQ (hvQ rfl (zar (cs := [.int .i64 n.ins, n.sv, n.av, n.ov]) rfl rfl rfl rfl rfl (zam 6 rfl 0 rfl)) ?_)))
 refine zdm rfl (zal rfl rfl (fun w hm => zas (zbz n w (hr.below hm.bel) hn))) (zbb 1 rfl (zac (zbc 1 rfl (zaw ?_))))
 refine zdl [rowE 124 2 (.slice none 0 0) (([] : List An).length) (([] : List An).flatMap anC), boxE b9 #[.int .i64 m.ins, m.sv, .slice none 0 0, .slice none 0 0] 101, rowE 35 3 m.sv m.ss.length (m.ss.flatMap sqC), rowE 3 1 tv ((evs2 n.fst.toNat).length) ((evs2 n.fst.toNat).map (Value.int .i64)), bigE ps, rowE 4 1 v3 bs.length (bs.flatMap blC), boxE b2 #[.int .i64 0, .slice none 0 0, .slice none 0 0, .slice none 0 0] 101, boxE b1 #[.int .i64 n.ins, n.sv, n.av, n.ov] 101] (fun w hm => hm.nilRow 124 2) ?_
 refine hc_loop4 (α := Nat) (β := List Int) (γ := List An) (δ := Value × Value) (fun i tos gs q => [rowE 124 2 q.2 gs.length (gs.flatMap anC), boxE b9 #[.int .i64 m.ins, m.sv, q.2, .slice none 0 0] 101, rowE 35 3 m.sv m.ss.length (m.ss.flatMap sqC), rowE 3 1 q.1 tos.length (tos.map (Value.int .i64)), bigE ps, rowE 4 1 v3 bs.length (bs.flatMap blC), boxE b2 #[.int .i64 0, .slice none 0 0, .slice none 0 0, .slice none 0 0] 101, boxE b1 #[.int .i64 n.ins, n.sv, n.av, n.ov] 101]) (fun i tos gs q => [(0, .agg #[.int .i64 n.ins, n.sv, n.av, n.ov]), (1, .pointer (some ⟨b1, 0, none⟩)), (2, .pointer (some ⟨b2, 0, none⟩)), (3, v3), (4, .pointer (some ⟨b9, 0, none⟩)), (5, q.1), (6, .int .i64 (n.fst + (gs.length : Int))), (7, .int .i64 (i : Int)), (12, .bool false)]) (fun i tos gs q => i ≤ n.gs.length ∧ gs.length ≤ i ∧ AnsOk n.fst gs ∧ MapOk tos (n.fst + (i : Int)) (n.fst + (gs.length : Int))) (fun i tos gs q => n.gs.length - i) 0 _ [] (_, _) ⟨by omega, by simp, fun k hk => absurd hk (Nat.not_lt_zero _), by have h9 := evs2_ok (k := n.fst.toNat) (m := n.fst) (by omega); rw [Int.toNat_of_nonneg (by omega)] at h9; simpa using h9⟩ (zbe [5, 4, 3, 2, 1, 0] _ (sk 6 (congrArg (fun x => some (Value.int .i64 x)) (by simp)) (zai [12, 7] rfl)) rfl) (pfQ rfl) ?_
 intro i tos gs q hi10
 obtain ⟨hi, hgi, hga, hmk⟩ := hi10
 have hmk1 := hmk.1
 refine zac (zac (reQ 1 rfl (hvQ rfl (fdQ 2 rfl rfl rfl) (hvQ rfl (zag rfl rfl rfl (zad 7 rfl rfl)) (hvQ rfl (lnQ rfl rfl rfl (zaa hr.an)) ?_)))))
 refine zbh rfl rfl rfl rfl rfl rfl (fun h11 => ?_) (fun h11 => ?_)
 ·
  refine ntQ (zan rfl (zcp (sbQ (zfl ?_))))
  have hani := hn.an i (by omega)
  have hia : LtOk (n.gs.getD i an0).a (n.fst + (i : Int)) := hani.1
  have hib : LtOk (n.gs.getD i an0).b (n.fst + (i : Int)) := hani.2
  have hx2 := hmk.two hia hib
  refine zao 1 rfl (hvQ rfl (zar (cs := [.int .i64 n.ins, n.sv, n.av, n.ov]) rfl rfl rfl rfl rfl (zam 7 rfl 0 rfl)) ?_)
  refine zdm rfl (zal rfl rfl (fun w hm => zas (zbz n w (hr.below hm.bel) hn))) (zao 1 rfl (hvQ rfl (vaQ rfl rfl rfl) (hvQ rfl (riQ 1 rfl rfl rfl rfl (zah 5 rfl)) ?_)))
  refine hvQ rfl (zat (u := .bool ((bs.getD ((n.fst + (i : Int)).toNat) bl0).b)) rfl rfl rfl (zah 5 rfl) (zbn blC (fun r => .bool r.b) (fun _ => rfl) bs bl0 (show (n.fst + (i : Int)).toNat < _ by omega))) (zbl (fun h12 => ?_) (fun h12 => ?_))
  ·
   refine zbb 1 rfl (zaq rfl (zcp (zac ?_)))
   refine zdo rfl 15 [0, 1, 2, 3, 4, 5, 6, 7, 8, 9, 10, 11, 12, 13, 14] (List.take 15 _) (List.drop 15 _) [[], [], [1], [], [2, 3], [4], [5], [], [7], [], [8, 9], [10], [11], [6, 12], [0, 13]] [41, 42, 43, 44, 45, 46, 47, 48, 49, 50, 51, 52, 53, 54, 55] (fun i_ vs_ v_ p_ => match i_ with | 0 => v_ = q.1 ∧ p_ = [] | 1 => v_ = .pointer (some ⟨b1, 0 + 2, none⟩) ∧ p_ = [] | 2 => v_ = n.av ∧ p_ = [] | 3 => v_ = .int .i64 (i : Int) ∧ p_ = [] | 4 => v_ = elP n.av (((i : Int)).toNat * 2) ∧ p_ = [] | 5 => v_ = elP n.av (((i : Int)).toNat * 2 + 0) ∧ p_ = [] | 6 => v_ = .int .i64 ((n.gs.getD i an0).a) ∧ p_ = [] | 7 => v_ = .pointer (some ⟨b1, 0 + 2, none⟩) ∧ p_ = [] | 8 => v_ = n.av ∧ p_ = [] | 9 => v_ = .int .i64 (i : Int) ∧ p_ = [] | 10 => v_ = elP n.av (((i : Int)).toNat * 2) ∧ p_ = [] | 11 => v_ = elP n.av (((i : Int)).toNat * 2 + 1) ∧ p_ = [] | 12 => v_ = .int .i64 ((n.gs.getD i an0).b) ∧ p_ = [] | 13 => IsRow 3 1 2 ([(n.gs.getD i an0).a, (n.gs.getD i an0).b].map (Value.int .i64)) v_ p_ | 14 => (fun v' post => post = [rowE 3 1 v' ((mpS tos ([(n.gs.getD i an0).a, (n.gs.getD i an0).b]))).length (((mpS tos ([(n.gs.getD i an0).a, (n.gs.getD i an0).b]))).map (Value.int .i64))]) v_ p_ | _ => True) (List.take_append_drop 15 _).symm (by kernel_rfl) (by kernel_rfl) rfl rfl ?_ ?_
   ·
    refine ⟨?_, ?_, ?_, ?_, ?_, ?_, ?_, ?_, ?_, ?_, ?_, ?_, ?_, ?_, ?_, trivial⟩
    ·
     intro vf pf hR
     exact ovQ rfl (zai [5] rfl) (zbd (zaj rfl))
    ·
     intro vf pf hR
     exact ovQ rfl (zai [1] rfl) (zbd (fdQ 2 rfl rfl rfl))
    ·
     intro vf pf hR
     have e1 := hR 1 (by decide)
     exact olQ rfl (sk 42 (congrArg some e1.1) (zab _)) (zbd (zag rfl rfl rfl (zad 7 rfl rfl)))
    ·
     intro vf pf hR
     exact ovQ rfl (zai [7] rfl) (zbd (zaj rfl))
    ·
     intro vf pf hR
     have e2 := hR 2 (by decide)
     have e3 := hR 3 (by decide)
     exact olQ rfl (sk 43 (congrArg some e2.1) (sk 44 (congrArg some e3.1) (zab _))) (zbd (riQ 2 rfl rfl rfl rfl (zaa hr.an)))
    ·
     intro vf pf hR
     have e4 := hR 4 (by decide)
     exact olQ rfl (sk 45 (congrArg some e4.1) (zab _)) (zbd (zbx (k0 := 0) rfl rfl rfl (zaa hr.an) (by omega)))
    ·
     intro vf pf hR
     have e5 := hR 5 (by decide)
     exact olQ rfl (sk 46 (congrArg some e5.1) (zab _)) (zbd (zat (u := .int .i64 ((n.gs.getD i an0).a)) rfl rfl rfl (zaa hr.an) ((zcy anC 2 (fun _ => rfl) n.gs an0 (show i < _ by omega) (by decide)).trans rfl)))
    ·
     intro vf pf hR
     exact ovQ rfl (zai [1] rfl) (zbd (fdQ 2 rfl rfl rfl))
    ·
     intro vf pf hR
     have e7 := hR 7 (by decide)
     exact olQ rfl (sk 48 (congrArg some e7.1) (zab _)) (zbd (zag rfl rfl rfl (zad 7 rfl rfl)))
    ·
     intro vf pf hR
     exact ovQ rfl (zai [7] rfl) (zbd (zaj rfl))
    ·
     intro vf pf hR
     have e8 := hR 8 (by decide)
     have e9 := hR 9 (by decide)
     exact olQ rfl (sk 49 (congrArg some e8.1) (sk 50 (congrArg some e9.1) (zab _))) (zbd (riQ 2 rfl rfl rfl rfl (zaa hr.an)))
    ·
     intro vf pf hR
     have e10 := hR 10 (by decide)
     exact olQ rfl (sk 51 (congrArg some e10.1) (zab _)) (zbd (zbx (k0 := 1) rfl rfl rfl (zaa hr.an) (by omega)))
    ·
     intro vf pf hR
     have e11 := hR 11 (by decide)
     exact olQ rfl (sk 52 (congrArg some e11.1) (zab _)) (zbd (zat (u := .int .i64 ((n.gs.getD i an0).b)) rfl rfl rfl (zaa hr.an) ((zcy anC 2 (fun _ => rfl) n.gs an0 (show i < _ by omega) (by decide)).trans rfl)))
    ·
     intro vf pf hR
     have e6 := hR 6 (by decide)
     have e12 := hR 12 (by decide)
     exact olQ rfl (sk 47 (congrArg some e6.1) (sk 53 (congrArg some e12.1) (zab _))) (zau (z := .int .i64 0) (s := 1) (cs := ([(n.gs.getD i an0).a, (n.gs.getD i an0).b].map (Value.int .i64))) rfl Try.underlying26 rfl (by decide) rfl (by kernel_rfl) rfl)
    intro vf pf hR
    have e0 := hR 0 (by decide)
    have e13 : IsRow 3 1 2 ([(n.gs.getD i an0).a, (n.gs.getD i an0).b].map (Value.int .i64)) (vf 13) (pf 13) := hR 13 (by decide)
    obtain ⟨g13, vE13, pE13⟩ := e13
    refine Or.inl ⟨rfl, ?_⟩
    exact zcc (sk 41 (congrArg some e0.1) (sk 54 (congrArg some vE13) (zab _))) (by simp only [pE13, vE13, e0.2, fS] <;> rfl) (zal rfl rfl (fun w hm => zgj tos ([(n.gs.getD i an0).a, (n.gs.getD i an0).b]) _ _ _ _ w ((zah 4 rfl) w hm) ((zah 0 rfl) w hm) hmk (by omega) (by omega) (two_lits hia hib) (by simp)))
   intro vf pf hR
   have e13 : IsRow 3 1 2 ([(n.gs.getD i an0).a, (n.gs.getD i an0).b].map (Value.int .i64)) (vf 13) (pf 13) := hR 13 (by decide)
   obtain ⟨g13, vE13, pE13⟩ := e13
   have e14 : (fun v' post => post = [rowE 3 1 v' ((mpS tos ([(n.gs.getD i an0).a, (n.gs.getD i an0).b]))).length (((mpS tos ([(n.gs.getD i an0).a, (n.gs.getD i an0).b]))).map (Value.int .i64))]) (vf 14) (pf 14) := hR 14 (by decide)
   obtain ⟨v14, vE14⟩ : ∃ x, vf 14 = x := ⟨_, rfl⟩
   obtain ⟨p15, pE14⟩ : ∃ x, pf 14 = x := ⟨_, rfl⟩
   have hR16 := e14
   rw [vE14, pE14] at hR16
   subst hR16
   have q0 := hR 0 (by decide)
   have q1 := hR 1 (by decide)
   have q2 := hR 2 (by decide)
   have q3 := hR 3 (by decide)
   have q4 := hR 4 (by decide)
   have q5 := hR 5 (by decide)
   have q6 := hR 6 (by decide)
   have q7 := hR 7 (by decide)
   have q8 := hR 8 (by decide)
   have q9 := hR 9 (by decide)
   have q10 := hR 10 (by decide)
   have q11 := hR 11 (by decide)
   have q12 := hR 12 (by decide)
   refine zce (zbe [37, 27, 12, 7, 6, 5, 4, 3, 2, 1, 0] _ (sk 55 (congrArg some vE14) (zab _)) rfl) (by simp only [pE13, vE13, pE14, vE14, q0.2, q1.2, q2.2, q3.2, q4.2, q5.2, q6.2, q7.2, q8.2, q9.2, q10.2, q11.2, q12.2, fS] <;> rfl) ?_
   simp only [List.drop_succ_cons, List.drop_zero]
   refine zbb 1 rfl (zac ?_)
   have hmpl := mpS_len tos [(n.gs.getD i an0).a, (n.gs.getD i an0).b]
   simp only [List.length_cons, List.length_nil] at hmpl
   refine zdo rfl 10 [0, 1, 2, 3, 4, 5, 6, 7, 8, 9] (List.take 10 _) (List.drop 10 _) [[], [0], [], [2], [3], [], [5], [6], [4, 7], [8]] [56, 57, 58, 59, 60, 61, 62, 63, 64, 65] (fun i_ vs_ v_ p_ => match i_ with | 0 => v_ = .pointer (some ⟨b9, 0 + 2, none⟩) ∧ p_ = [] | 1 => v_ = q.2 ∧ p_ = [] | 2 => v_ = v14 ∧ p_ = [] | 3 => v_ = elP v14 ((0 : Int).toNat * 1) ∧ p_ = [] | 4 => v_ = .int .i64 ((mpS tos ([(n.gs.getD i an0).a, (n.gs.getD i an0).b])).getD 0 0) ∧ p_ = [] | 5 => v_ = v14 ∧ p_ = [] | 6 => v_ = elP v14 ((1 : Int).toNat * 1) ∧ p_ = [] | 7 => v_ = .int .i64 ((mpS tos ([(n.gs.getD i an0).a, (n.gs.getD i an0).b])).getD 1 0) ∧ p_ = [] | 8 => v_ = .agg #[.int .i64 ((mpS tos ([(n.gs.getD i an0).a, (n.gs.getD i an0).b])).getD 0 0), .int .i64 ((mpS tos ([(n.gs.getD i an0).a, (n.gs.getD i an0).b])).getD 1 0)] ∧ p_ = [] | 9 => IsRow 124 2 1 ([(mpS tos ([(n.gs.getD i an0).a, (n.gs.getD i an0).b])).getD 0 0, (mpS tos ([(n.gs.getD i an0).a, (n.gs.getD i an0).b])).getD 1 0].map (Value.int .i64)) v_ p_ | _ => True) (List.take_append_drop 10 _).symm (by kernel_rfl) (by kernel_rfl) rfl rfl ?_ ?_
   ·
    refine ⟨?_, ?_, ?_, ?_, ?_, ?_, ?_, ?_, ?_, ?_, trivial⟩
    ·
     intro vf pf hR
     exact ovQ rfl (zai [4] rfl) (zbd (fdQ 2 rfl rfl rfl))
    ·
     intro vf pf hR
     have e0 := hR 0 (by decide)
     exact olQ rfl (sk 56 (congrArg some e0.1) (zab _)) (zbd (zag rfl rfl rfl (zad 3 rfl rfl)))
    ·
     intro vf pf hR
     exact ovQ rfl (zai [8] rfl) (zbd (zaj rfl))
    ·
     intro vf pf hR
     have e2 := hR 2 (by decide)
     exact olQ rfl (sk 58 (congrArg some e2.1) (zab _)) (zbd (riQ 1 rfl rfl rfl rfl (zah 1 rfl)))
    ·
     intro vf pf hR
     have e3 := hR 3 (by decide)
     exact olQ rfl (sk 59 (congrArg some e3.1) (zab _)) (zbd (zat (u := .int .i64 ((mpS tos ([(n.gs.getD i an0).a, (n.gs.getD i an0).b])).getD 0 0)) rfl rfl rfl (zah 1 rfl) (zdi (show _ < (mpS tos ([(n.gs.getD i an0).a, (n.gs.getD i an0).b])).length by omega))))
    ·
     intro vf pf hR
     exact ovQ rfl (zai [8] rfl) (zbd (zaj rfl))
    ·
     intro vf pf hR
     have e5 := hR 5 (by decide)
     exact olQ rfl (sk 61 (congrArg some e5.1) (zab _)) (zbd (riQ 1 rfl rfl rfl rfl (zah 1 rfl)))
    ·
     intro vf pf hR
     have e6 := hR 6 (by decide)
     exact olQ rfl (sk 62 (congrArg some e6.1) (zab _)) (zbd (zat (u := .int .i64 ((mpS tos ([(n.gs.getD i an0).a, (n.gs.getD i an0).b])).getD 1 0)) rfl rfl rfl (zah 1 rfl) (zdi (show _ < (mpS tos ([(n.gs.getD i an0).a, (n.gs.getD i an0).b])).length by omega))))
    ·
     intro vf pf hR
     have e4 := hR 4 (by decide)
     have e7 := hR 7 (by decide)
     exact ovQ rfl (sk 60 (congrArg some e4.1) (sk 63 (congrArg some e7.1) (zab _))) (zbd (zda (cs := #[.int .i64 ((mpS tos ([(n.gs.getD i an0).a, (n.gs.getD i an0).b])).getD 0 0), .int .i64 ((mpS tos ([(n.gs.getD i an0).a, (n.gs.getD i an0).b])).getD 1 0)]) rfl rfl rfl))
    intro vf pf hR
    have e8 := hR 8 (by decide)
    exact olQ rfl (sk 64 (congrArg some e8.1) (zab _)) (zau (z := .agg #[.int .i64 0, .int .i64 0]) (s := 2) (cs := ([(mpS tos ([(n.gs.getD i an0).a, (n.gs.getD i an0).b])).getD 0 0, (mpS tos ([(n.gs.getD i an0).a, (n.gs.getD i an0).b])).getD 1 0].map (Value.int .i64))) rfl Try.underlying99 rfl (by decide) rfl (by kernel_rfl) rfl)
   intro vf pf hR
   have e1 := hR 1 (by decide)
   have e9 : IsRow 124 2 1 ([(mpS tos ([(n.gs.getD i an0).a, (n.gs.getD i an0).b])).getD 0 0, (mpS tos ([(n.gs.getD i an0).a, (n.gs.getD i an0).b])).getD 1 0].map (Value.int .i64)) (vf 9) (pf 9) := hR 9 (by decide)
   obtain ⟨g17, vE9, pE9⟩ := e9
   have q0 := hR 0 (by decide)
   have q1 := hR 1 (by decide)
   have q2 := hR 2 (by decide)
   have q3 := hR 3 (by decide)
   have q4 := hR 4 (by decide)
   have q5 := hR 5 (by decide)
   have q6 := hR 6 (by decide)
   have q7 := hR 7 (by decide)
   have q8 := hR 8 (by decide)
   refine zce (zbe [37, 27, 12, 8, 7, 6, 5, 4, 3, 2, 1, 0] _ (sk 57 (congrArg some e1.1) (sk 65 (congrArg some vE9) (zab _))) rfl) (by simp only [pE9, vE9, q0.2, q1.2, q2.2, q3.2, q4.2, q5.2, q6.2, q7.2, q8.2, fS] <;> rfl) ?_
   simp only [List.drop_succ_cons, List.drop_zero]
   refine zcf (i := 3) (z := .agg #[.int .i64 0, .int .i64 0]) (bytes := 16) rfl rfl rfl rfl Try.underlying99 (by kernel_rfl) rfl rfl rfl rfl (zah 0 rfl) (zbw _) (by first | omega | (simp only [List.length_append, List.length_cons, List.length_nil]; omega)) (zbt gs [(An.mk ((mpS tos [(n.gs.getD i an0).a, (n.gs.getD i an0).b]).getD 0 0) ((mpS tos [(n.gs.getD i an0).a, (n.gs.getD i an0).b]).getD 1 0))]) (zcs anC gs (An.mk ((mpS tos [(n.gs.getD i an0).a, (n.gs.getD i an0).b]).getD 0 0) ((mpS tos [(n.gs.getD i an0).a, (n.gs.getD i an0).b]).getD 1 0)) _ rfl) (fun _ => rfl) ?_
   intro v18
   refine hvQ rfl (fdQ 2 rfl rfl rfl) (zcr (i := 3) rfl (fun ho19 => ?_))
   refine zed (i := 4) (cs' := #[.int .i64 m.ins, m.sv, v18, .slice none 0 0]) rfl rfl rfl rfl rfl rfl ho19 rfl rfl rfl rfl (ntQ (zac (reQ 2 rfl (hvQ rfl (zfe rfl rfl rfl (by constructor <;> omega)) ?_))))
   refine zdu rfl (zau (z := .int .i64 0) (s := 1) (cs := ([2 * (n.fst + (gs.length : Int))].map (Value.int .i64))) rfl Try.underlying26 rfl (by decide) rfl (by kernel_rfl) rfl) ?_
   intro g20
   refine zcf (i := 7) (z := .int .i64 0) (bytes := 8) rfl rfl rfl rfl Try.underlying26 (by kernel_rfl) rfl rfl rfl rfl (zah 0 rfl) (zbw _) (by first | omega | (simp; done) | (simp; omega)) (zbt tos ([2 * (n.fst + (gs.length : Int))])) (zcn tos ([2 * (n.fst + (gs.length : Int))])) (fun _ => rfl) ?_
   intro v21
   refine zbb 1 rfl (reQ 1 rfl (hvQ rfl (vaQ rfl rfl rfl) (enQ 1 rfl (zcv (reQ 1 rfl ?_)))))
   refine hvQ rfl (vaQ rfl rfl rfl) (enQ 1 rfl ?_)
   have hgl9 : (gs ++ [(An.mk ((mpS tos [(n.gs.getD i an0).a, (n.gs.getD i an0).b]).getD 0 0) ((mpS tos [(n.gs.getD i an0).a, (n.gs.getD i an0).b]).getD 1 0))]).length = gs.length + 1 := by rw [List.length_append, List.length_singleton]
   have hga2 : AnsOk n.fst (gs ++ [(An.mk ((mpS tos [(n.gs.getD i an0).a, (n.gs.getD i an0).b]).getD 0 0) ((mpS tos [(n.gs.getD i an0).a, (n.gs.getD i an0).b]).getD 1 0))]) := ans_app hga hx2.1 hx2.2
   have hmk2 : MapOk (tos ++ ([2 * (n.fst + (gs.length : Int))])) (n.fst + ((i + 1 : Nat) : Int)) (n.fst + ((gs ++ [(An.mk ((mpS tos [(n.gs.getD i an0).a, (n.gs.getD i an0).b]).getD 0 0) ((mpS tos [(n.gs.getD i an0).a, (n.gs.getD i an0).b]).getD 1 0))]).length : Int)) := by have h9 := (hmk.up (m' := n.fst + ((gs ++ [(An.mk ((mpS tos [(n.gs.getD i an0).a, (n.gs.getD i an0).b]).getD 0 0) ((mpS tos [(n.gs.getD i an0).a, (n.gs.getD i an0).b]).getD 1 0))]).length : Int)) (by omega)).app (x := 2 * (n.fst + (gs.length : Int))) (by unfold LtOk; omega); rwa [show n.fst + (i : Int) + 1 = n.fst + ((i + 1 : Nat) : Int) by omega] at h9
   exact zca (i + 1) (tos ++ ([2 * (n.fst + (gs.length : Int))])) (gs ++ [(An.mk ((mpS tos [(n.gs.getD i an0).a, (n.gs.getD i an0).b]).getD 0 0) ((mpS tos [(n.gs.getD i an0).a, (n.gs.getD i an0).b]).getD 1 0))]) (v21, v18) ⟨by omega, by omega, hga2, hmk2⟩ (by omega) (zbe [5, 4, 3, 2, 1, 0] _ (sk 6 (congrArg (fun x => some (Value.int .i64 x)) (by first | rfl | (rw [List.length_append, List.length_singleton]; omega))) (zai [12, 7] rfl)) rfl) (slQ [4, 0, 0, 0, 0, 0, 0, 0] rfl)
  refine zbb 1 rfl (zan rfl (zac (reQ 1 rfl ?_)))
  refine zdu rfl (zau (z := .int .i64 0) (s := 1) (cs := ([0].map (Value.int .i64))) rfl Try.underlying26 rfl (by decide) rfl (by kernel_rfl) rfl) ?_
  intro g22
  refine zcf (i := 4) (z := .int .i64 0) (bytes := 8) rfl rfl rfl rfl Try.underlying26 (by kernel_rfl) rfl rfl rfl rfl (zah 0 rfl) (zbw _) (by first | omega | (simp; done) | (simp; omega)) (zbt tos ([0])) (zcn tos ([0])) (fun _ => rfl) ?_
  intro v23
  refine zbb 1 rfl ?_
  refine zaz (zeg ?_)
  refine zaf (zax (reQ 1 rfl (hvQ rfl (vaQ rfl rfl rfl) (enQ 1 rfl ?_))))
  have hmk2 : MapOk (tos ++ [0]) (n.fst + ((i + 1 : Nat) : Int)) (n.fst + (gs.length : Int)) := by have h9 := hmk.app (x := 0) (by unfold LtOk; omega); rwa [show n.fst + (i : Int) + 1 = n.fst + ((i + 1 : Nat) : Int) by omega] at h9
  exact zca (i + 1) (tos ++ ([0])) gs (v23, q.2) ⟨by omega, by omega, hga, hmk2⟩ (by omega) (zbe [5, 4, 3, 2, 1, 0] _ (sk 6 (congrArg (fun x => some (Value.int .i64 x)) (by first | rfl | (rw [List.length_append, List.length_singleton]; omega))) (zai [12, 7] rfl)) rfl) (slQ [1, 0, 0, 0, 0, 0, 0, 0] rfl)
 refine ntQ (zaq rfl ?_)
 refine zaz (zdp ?_)
 refine zaf (zax (zfl ?_))
 have hmkF : MapOk tos n.cnt (n.fst + (gs.length : Int)) := by have h9 := hmk; rwa [show n.fst + (i : Int) = n.cnt by omega] at h9
 refine zbb 1 rfl (zaw ?_)
 refine hc_loop3 (α := Nat) (β := List Sq) (γ := List HP) (fun i9 zs ps2 => [rowE 124 2 q.2 gs.length (gs.flatMap anC), boxE b9 #[.int .i64 m.ins, m.sv, q.2, .slice none 0 0] 101, rowE 35 3 m.sv zs.length (zs.flatMap sqC), rowE 3 1 q.1 tos.length (tos.map (Value.int .i64)), bigE ps2, rowE 4 1 v3 bs.length (bs.flatMap blC), boxE b2 #[.int .i64 0, .slice none 0 0, .slice none 0 0, .slice none 0 0] 101, boxE b1 #[.int .i64 n.ins, n.sv, n.av, n.ov] 101]) (fun i9 zs ps2 => [(0, .agg #[.int .i64 n.ins, n.sv, n.av, n.ov]), (1, .pointer (some ⟨b1, 0, none⟩)), (2, .pointer (some ⟨b2, 0, none⟩)), (3, v3), (4, .pointer (some ⟨b9, 0, none⟩)), (5, q.1), (6, .int .i64 (n.fst + (gs.length : Int))), (7, .int .i64 (i : Int)), (9, .int .i64 (i9 : Int)), (12, .bool false), (27, .bool false)]) (fun i9 zs ps2 => i9 ≤ m.ss.length ∧ SInv m.ss i9 (n.fst + (gs.length : Int)) zs ∧ ∀ w, (bigE ps2).holds w → RdsSqs w zs) (fun i9 zs ps2 => m.ss.length - i9) 0 m.ss _ ⟨Nat.zero_le _, SInv.start _ _, hps⟩ (saQ rfl) (pfQ rfl) ?_
 intro i9 zs ps2 hi24
 obtain ⟨hi9, hsi, hps2⟩ := hi24
 have hzl := hsi.len
 refine zac (zac (reQ 1 rfl (hvQ rfl (fdQ 1 rfl rfl rfl) (hvQ rfl (zag rfl rfl rfl (zad 1 rfl rfl)) (hvQ rfl (lnQ rfl rfl rfl (zah 2 rfl)) ?_)))))
 refine zbh rfl rfl rfl rfl rfl rfl (fun h25 => ?_) (fun h25 => ?_)
 ·
  refine ntQ (zan rfl (zcp (sbQ ?_)))
  have hx49 := (hn.sq _ (zch (d := sq0) (show i9 < n.ss.length by have := hsk.len; omega))).len
  have hsx := (hsi.same (k := i9) (by omega)).trans (skel_x hsk (k := i9) (by omega))
  refine zdo rfl 13 [0, 1, 2, 3, 4, 5, 6, 7, 8, 9, 10, 11, 12] (List.take 13 _) (List.drop 13 _) [[], [0], [], [], [], [4], [], [5, 6], [7], [8], [3, 9], [1, 2], [11]] [82, 83, 84, 85, 86, 87, 88, 89, 90, 91, 92, 93, 94] (fun i_ vs_ v_ p_ => match i_ with | 0 => v_ = .pointer (some ⟨b9, 0 + 1, none⟩) ∧ p_ = [] | 1 => v_ = m.sv ∧ p_ = [] | 2 => v_ = .int .i64 (i9 : Int) ∧ p_ = [] | 3 => v_ = q.1 ∧ p_ = [] | 4 => v_ = .pointer (some ⟨b1, 0 + 1, none⟩) ∧ p_ = [] | 5 => v_ = n.sv ∧ p_ = [] | 6 => v_ = .int .i64 (i9 : Int) ∧ p_ = [] | 7 => v_ = elP n.sv (((i9 : Int)).toNat * 3) ∧ p_ = [] | 8 => v_ = elP n.sv (((i9 : Int)).toNat * 3 + 2) ∧ p_ = [] | 9 => v_ = (n.ss.getD i9 sq0).iv ∧ p_ = [] | 10 => (fun v' post => post = [rowE 3 1 v' ((mpS tos ((n.ss.getD i9 sq0).xs))).length (((mpS tos ((n.ss.getD i9 sq0).xs))).map (Value.int .i64))]) v_ p_ | 11 => v_ = elP m.sv (((i9 : Int)).toNat * 3) ∧ p_ = [] | 12 => v_ = elP m.sv (((i9 : Int)).toNat * 3 + 2) ∧ p_ = [] | _ => True) (List.take_append_drop 13 _).symm (by kernel_rfl) (by kernel_rfl) rfl rfl ?_ ?_
  ·
   refine ⟨?_, ?_, ?_, ?_, ?_, ?_, ?_, ?_, ?_, ?_, ?_, ?_, ?_, trivial⟩
   ·
    intro vf pf hR
    exact ovQ rfl (zai [4] rfl) (zbd (fdQ 1 rfl rfl rfl))
   ·
    intro vf pf hR
    have e0 := hR 0 (by decide)
    exact olQ rfl (sk 82 (congrArg some e0.1) (zab _)) (zbd (zag rfl rfl rfl (zad 1 rfl rfl)))
   ·
    intro vf pf hR
    exact ovQ rfl (zai [9] rfl) (zbd (zaj rfl))
   ·
    intro vf pf hR
    exact ovQ rfl (zai [5] rfl) (zbd (zaj rfl))
   ·
    intro vf pf hR
    exact ovQ rfl (zai [1] rfl) (zbd (fdQ 1 rfl rfl rfl))
   ·
    intro vf pf hR
    have e4 := hR 4 (by decide)
    exact olQ rfl (sk 86 (congrArg some e4.1) (zab _)) (zbd (zag rfl rfl rfl (zad 7 rfl rfl)))
   ·
    intro vf pf hR
    exact ovQ rfl (zai [9] rfl) (zbd (zaj rfl))
   ·
    intro vf pf hR
    have e5 := hR 5 (by decide)
    have e6 := hR 6 (by decide)
    exact olQ rfl (sk 87 (congrArg some e5.1) (sk 88 (congrArg some e6.1) (zab _))) (zbd (riQ 3 rfl rfl rfl rfl (zaa hr.sq)))
   ·
    intro vf pf hR
    have e7 := hR 7 (by decide)
    exact olQ rfl (sk 89 (congrArg some e7.1) (zab _)) (zbd (zbx (k0 := 2) rfl rfl rfl (zaa hr.sq) (by omega)))
   ·
    intro vf pf hR
    have e8 := hR 8 (by decide)
    exact olQ rfl (sk 90 (congrArg some e8.1) (zab _)) (zbd (zat (u := (n.ss.getD i9 sq0).iv) rfl rfl rfl (zaa hr.sq) ((zcy sqC 3 (fun _ => rfl) n.ss sq0 (show i9 < _ by omega) (by decide)).trans rfl)))
   ·
    intro vf pf hR
    have e3 := hR 3 (by decide)
    have e9 := hR 9 (by decide)
    exact olQ rfl (sk 85 (congrArg some e3.1) (sk 91 (congrArg some e9.1) (zab _))) (zal rfl rfl (fun w hm => zgj tos ((n.ss.getD i9 sq0).xs) _ _ _ _ w ((zah 3 rfl) w hm) ((zaa (hr.at (k := i9) (by omega))) w hm) hmkF (by omega) (by omega) (hn.xs _ (zch (d := sq0) (by omega))) (by omega)))
   ·
    intro vf pf hR
    have e1 := hR 1 (by decide)
    have e2 := hR 2 (by decide)
    exact olQ rfl (sk 83 (congrArg some e1.1) (sk 84 (congrArg some e2.1) (zab _))) (zbd (riQ 3 rfl rfl rfl rfl (zah 2 rfl)))
   intro vf pf hR
   have e11 := hR 11 (by decide)
   exact olQ rfl (sk 93 (congrArg some e11.1) (zab _)) (zbd (zbx (k0 := 2) rfl rfl rfl (zah 2 rfl) (by omega)))
  intro vf pf hR
  have e10 : (fun v' post => post = [rowE 3 1 v' ((mpS tos ((n.ss.getD i9 sq0).xs))).length (((mpS tos ((n.ss.getD i9 sq0).xs))).map (Value.int .i64))]) (vf 10) (pf 10) := hR 10 (by decide)
  obtain ⟨v26, vE10⟩ : ∃ x, vf 10 = x := ⟨_, rfl⟩
  obtain ⟨p27, pE10⟩ : ∃ x, pf 10 = x := ⟨_, rfl⟩
  have hR28 := e10
  rw [vE10, pE10] at hR28
  subst hR28
  have e12 := hR 12 (by decide)
  have q0 := hR 0 (by decide)
  have q1 := hR 1 (by decide)
  have q2 := hR 2 (by decide)
  have q3 := hR 3 (by decide)
  have q4 := hR 4 (by decide)
  have q5 := hR 5 (by decide)
  have q6 := hR 6 (by decide)
  have q7 := hR 7 (by decide)
  have q8 := hR 8 (by decide)
  have q9 := hR 9 (by decide)
  have q11 := hR 11 (by decide)
  have q12 := hR 12 (by decide)
  refine zce (zbe [79, 27, 12, 9, 7, 6, 5, 4, 3, 2, 1, 0] _ (sk 92 (congrArg some vE10) (sk 94 (congrArg some e12.1) (zab _))) rfl) (by simp only [pE10, vE10, q0.2, q1.2, q2.2, q3.2, q4.2, q5.2, q6.2, q7.2, q8.2, q9.2, q11.2, q12.2, fS] <;> rfl) ?_
  simp only [List.drop_succ_cons, List.drop_zero]
  refine zcr (i := 0) rfl (fun ho29 => ?_)
  refine zcw (i := 3) (n' := (zs.set i9 (Sq.mk (zs.getD i9 sq0).kd (zs.getD i9 sq0).it v26 (mpS tos ((n.ss.getD i9 sq0).xs)))).length) (xs' := ((zs.set i9 (Sq.mk (zs.getD i9 sq0).kd (zs.getD i9 sq0).it v26 (mpS tos ((n.ss.getD i9 sq0).xs)))).flatMap sqC)) rfl rfl rfl rfl rfl rfl ho29 rfl (by first | omega | (simp only [List.length_set]; omega)) List.length_set.symm (flat_set sqC 3 (fun _ => rfl) _ sq0 _ (by first | omega | (simp only [List.length_set]; omega)) (by decide) rfl) rfl (zcb (zcv (reQ 1 rfl (hvQ rfl (vaQ rfl rfl rfl) ?_))))
  have hmkF : MapOk tos n.cnt (n.fst + (gs.length : Int)) := by have h9 := hmk; rwa [show n.fst + (i : Int) = n.cnt by omega] at h9
  refine enQ 1 rfl ?_
  refine zbo 9 [8, 7, 6, 4, 3, 2, 1, 0, 5] rfl rfl (by decide) ?_
  refine zcx 2 rfl ?_
  refine zbo 8 [7, 6, 5, 0, 4, 3, 2, 1] rfl rfl (by decide) ?_
  exact zbi (i9 + 1) (zs.set i9 (Sq.mk (zs.getD i9 sq0).kd (zs.getD i9 sq0).it v26 (mpS tos ((n.ss.getD i9 sq0).xs)))) [bigE ps2, rowE 3 1 v26 ((mpS tos ((n.ss.getD i9 sq0).xs)).length) ((mpS tos ((n.ss.getD i9 sq0).xs)).map (Value.int .i64))] ⟨by omega, hsi.step (by omega) (by show (_, _, (mpS _ _).length) = _; rw [mpS_len, ← hsx]; rfl) (mpS_ok hmkF (hn.xs _ (zch (d := sq0) (by omega)))), fun w hw => (hps2 w (zba hw List.mem_cons_self)).set (zbp (zba hw (List.mem_cons_of_mem _ List.mem_cons_self)))⟩ (by omega) (saQ rfl) (pfQ rfl)
 refine ntQ (zaq rfl ?_)
 refine zaz (zdp ?_)
 refine zaf (zax (zac (reQ 1 rfl (hvQ rfl (fdQ 3 rfl rfl rfl) (hvQ rfl (zag rfl rfl rfl (zad 7 rfl rfl)) ?_)))))
 refine hl_q rfl rfl rfl (zal rfl rfl (fun w hm => zgj tos n.os _ _ _ _ w ((zah 3 rfl) w hm) ((zaa hr.ou) w hm) hmkF (by omega) (by omega) hn.ou (by omega))) ?_
 intro v30 p31 hR32
 subst hR32
 refine hvQ rfl (fdQ 3 rfl rfl rfl) (zcr (i := 0) rfl (fun ho33 => ?_))
 refine zed (i := 2) (cs' := #[.int .i64 m.ins, m.sv, q.2, v30]) rfl rfl rfl rfl rfl rfl ho33 rfl rfl rfl rfl (ntQ (srQ (hvQ rfl (zar (cs := [.int .i64 m.ins, m.sv, q.2, v30]) rfl rfl rfl rfl rfl (zam 2 rfl 0 rfl)) ?_)))
 refine zcr (i := 1) rfl (fun ho34 => ?_)
 refine zbr (cs' := #[.int .i64 m.ins, m.sv, q.2, v30]) (i := 7) (off := 0) (us := [.int .i64 m.ins, m.sv, q.2, v30]) rfl rfl rfl rfl rfl rfl rfl (zae rfl (zae o1m (zae ho34 (zae ho33 zbj)))) rfl rfl rfl (ntQ ?_)
 refine zav (zdv (fun w hm => (zah 3 rfl w hm).one) (fun ho1 => ?_))
 refine zdv (fun w hm => (zah 1 rfl w hm).one) (fun ho2 => ?_)
 refine zdv (fun w hm => (zah 0 rfl w hm).one) (fun ho3 => ?_)
 have hfin := skel_net (n := n) (sv := m.sv) (av := q.2) (ov := v30) (zs := zs) (gs := gs) (os := (mpS tos n.os)) hsk hmok hsi.sk hga (by omega) (hsi.all (by omega)) (mpS_ok hmkF hn.ou) (by rw [mpS_len]; omega)
 refine zbo 9 [7, 0, 1, 5, 3] rfl rfl (by decide) ?_
 refine zcx 4 rfl ?_
 exact zdn (rs := [.cell 2 101]) (vs := [.agg #[.int .i64 m.ins, m.sv, q.2, v30]]) (post := [bigE [rowE 35 3 m.sv zs.length (zs.flatMap sqC), bigE ps2, rowE 124 2 q.2 gs.length (gs.flatMap anC), rowE 3 1 v30 ((mpS tos n.os).length) ((mpS tos n.os).map (Value.int .i64))]]) rfl ⟨⟨b2, 0, [.int .i64 m.ins, m.sv, q.2, v30], rfl, rfl, by kernel_rfl, by kernel_rfl, zam 1 rfl 0 rfl⟩, trivial⟩ rfl (slQ [0] rfl) ⟨_, (Nt.mk m.ins m.sv q.2 v30 zs gs (mpS tos n.os)), rfl, rfl, fun w hw => ⟨zbp (zba hw List.mem_cons_self), hps2 w (zba hw (List.mem_cons_of_mem _ List.mem_cons_self)), zbp (zba hw (List.mem_cons_of_mem _ (List.mem_cons_of_mem _ List.mem_cons_self))), zbp (zba hw (List.mem_cons_of_mem _ (List.mem_cons_of_mem _ (List.mem_cons_of_mem _ List.mem_cons_self))))⟩, ⟨ho1, ho2, ho3⟩, hfin.1, hfin.2, (by show gs.length ≤ _; omega)⟩
theorem l10Finish_step (n o : Nt) (tos : List Int) (tv : Value) (ps : List HP) (w0 : World) (l : List HP) (w : World) (hm0 : Mem w0 (rowE 35 3 o.sv o.ss.length (o.ss.flatMap sqC) :: rowE 3 1 tv tos.length (tos.map (Value.int .i64)) :: bigE ps :: l) w) (hr : RdsNt w0 n) (hn : NtOk n) (ho : NtOk o) (hsk : Skel n o) (hmk : MapOk tos n.cnt o.cnt) (hps : ∀ w, (bigE ps).holds w → NtRest w o) (hone : o.sv.oneCell' = true ∧ o.av.oneCell' = true ∧ o.ov.oneCell' = true) :
   Calls Try.prog 76 #[.agg #[.int .i64 o.ins, o.sv, o.av, o.ov], .agg #[.int .i64 n.ins, n.sv, n.av, n.ov], tv] w (fun e_ w_ => ∃ v_ p_, e_ = .returned v_ ∧ (fun u_ p_ => ∃ (ps : List HP) (m : Nt), u_ = m.agg ∧ p_ = bigE ps ∧ (∀ w, (bigE ps).holds w → RdsNt w m) ∧ (m.sv.oneCell' = true ∧ m.av.oneCell' = true ∧ m.ov.oneCell' = true) ∧ NtOk m ∧ Skel n m ∧ m.gs.length ≤ o.gs.length) v_ p_ ∧ Mem w0 (p_ :: l) w_) := by
 have hi0 := hn.i0
 have hi1 := hn.i1
 have hs1 := hn.s1
 have ha1 := hn.a1
 have ho1 := hn.o1
 have hcnt : n.cnt = 1 + n.ins + n.ss.length + n.gs.length := rfl
 have hfst : n.fst = 1 + n.ins + n.ss.length := rfl
 obtain ⟨hoc1, hoc2, hoc3, hoc4, hoc5, hoc6⟩ := cnt_rng ho
 have hosl := hsk.len
 have hmk1 := hmk.1
 refine zgm (N := 35) (args := [.agg #[.int .i64 o.ins, o.sv, o.av, o.ov], .agg #[.int .i64 n.ins, n.sv, n.av, n.ov], tv]) Try.func76 rfl rfl hm0 (srQ ?_)
 refine zdt rfl (zct rfl rfl) ?_
 intro b1
 refine zdt rfl (zct rfl rfl) ?_
 intro b2
 refine zdt rfl (zbm (z := .agg #[.int .i64 0, .slice none 0 0, .slice none 0 0, .slice none 0 0]) rfl rfl) ?_
 intro b3
 refine ntQ (zac (zbc 1 rfl (zaw ?_)))
 refine lkQ3 (α := Nat) (β := List Sq) (γ := List HP) [0, 1, 2, 3, 4, 6] rfl (fun i9 zs ps2 => (boxE b3 #[.int .i64 0, .slice none 0 0, .slice none 0 0, .slice none 0 0] 101 :: boxE b2 #[.int .i64 n.ins, n.sv, n.av, n.ov] 101 :: boxE b1 #[.int .i64 o.ins, o.sv, o.av, o.ov] 101 :: rowE 35 3 o.sv zs.length (zs.flatMap sqC) :: rowE 3 1 tv tos.length (tos.map (Value.int .i64)) :: bigE ps2 :: l)) (fun i9 zs ps2 => [(7, .int .i64 (i9 : Int))]) (fun i9 zs ps2 => i9 ≤ o.ss.length ∧ SInv o.ss i9 o.cnt zs ∧ ∀ w, (bigE ps2).holds w → RdsSqs w zs ∧ RdsW w o.av 2 o.gs.length (o.gs.flatMap anC)) (fun i9 zs ps2 => o.ss.length - i9) 0 o.ss _ ⟨Nat.zero_le _, SInv.start _ _, (fun w hw => ⟨(hps w hw).xs, (hps w hw).an⟩)⟩ (saQ rfl) (.refl _) ?_
 intro i9 zs ps2 hi4
 obtain ⟨hi9, hsi, hps2⟩ := hi4
 have hzl := hsi.len
 refine zac (zac (reQ 1 rfl (hvQ rfl (fdQ 1 rfl rfl rfl) (hvQ rfl (zag rfl rfl rfl (zad 2 rfl rfl)) (hvQ rfl (lnQ rfl rfl rfl (zah 3 rfl)) ?_)))))
 refine zbh rfl rfl rfl rfl rfl rfl (fun h5 => ?_) (fun h5 => ?_)
 ·
  refine ntQ (zan rfl (zcp (sbQ ?_)))
  have hx49 := (hn.sq _ (zch (d := sq0) (show i9 < n.ss.length by omega))).len
  have hsx := (hsi.same (k := i9) (by omega)).trans (skel_x hsk (k := i9) (by omega))
  refine zdo rfl 13 [0, 1, 2, 3, 4, 5, 6, 7, 8, 9, 10, 11, 12] (List.take 13 _) (List.drop 13 _) [[], [0], [], [], [], [4], [], [5, 6], [7], [8], [3, 9], [1, 2], [11]] [15, 16, 17, 18, 19, 20, 21, 22, 23, 24, 25, 26, 27] (fun i_ vs_ v_ p_ => match i_ with | 0 => v_ = .pointer (some ⟨b1, 0 + 1, none⟩) ∧ p_ = [] | 1 => v_ = o.sv ∧ p_ = [] | 2 => v_ = .int .i64 (i9 : Int) ∧ p_ = [] | 3 => v_ = tv ∧ p_ = [] | 4 => v_ = .pointer (some ⟨b2, 0 + 1, none⟩) ∧ p_ = [] | 5 => v_ = n.sv ∧ p_ = [] | 6 => v_ = .int .i64 (i9 : Int) ∧ p_ = [] | 7 => v_ = elP n.sv (((i9 : Int)).toNat * 3) ∧ p_ = [] | 8 => v_ = elP n.sv (((i9 : Int)).toNat * 3 + 2) ∧ p_ = [] | 9 => v_ = (n.ss.getD i9 sq0).iv ∧ p_ = [] | 10 => (fun v' post => post = [rowE 3 1 v' ((mpS tos ((n.ss.getD i9 sq0).xs))).length (((mpS tos ((n.ss.getD i9 sq0).xs))).map (Value.int .i64))]) v_ p_ | 11 => v_ = elP o.sv (((i9 : Int)).toNat * 3) ∧ p_ = [] | 12 => v_ = elP o.sv (((i9 : Int)).toNat * 3 + 2) ∧ p_ = [] | _ => True) (List.take_append_drop 13 _).symm (by kernel_rfl) (by kernel_rfl) rfl rfl ?_ ?_
  ·
   refine ⟨?_, ?_, ?_, ?_, ?_, ?_, ?_, ?_, ?_, ?_, ?_, ?_, ?_, trivial⟩
   ·
    intro vf pf hR
    exact ovQ rfl (zai [3] rfl) (zbd (fdQ 1 rfl rfl rfl))
   ·
    intro vf pf hR
    have e0 := hR 0 (by decide)
    exact olQ rfl (sk 15 (congrArg some e0.1) (zab _)) (zbd (zag rfl rfl rfl (zad 2 rfl rfl)))
   ·
    intro vf pf hR
    exact ovQ rfl (zai [7] rfl) (zbd (zaj rfl))
   ·
    intro vf pf hR
    exact ovQ rfl (zai [2] rfl) (zbd (zaj rfl))
   ·
    intro vf pf hR
    exact ovQ rfl (zai [4] rfl) (zbd (fdQ 1 rfl rfl rfl))
   ·
    intro vf pf hR
    have e4 := hR 4 (by decide)
    exact olQ rfl (sk 19 (congrArg some e4.1) (zab _)) (zbd (zag rfl rfl rfl (zad 1 rfl rfl)))
   ·
    intro vf pf hR
    exact ovQ rfl (zai [7] rfl) (zbd (zaj rfl))
   ·
    intro vf pf hR
    have e5 := hR 5 (by decide)
    have e6 := hR 6 (by decide)
    exact olQ rfl (sk 20 (congrArg some e5.1) (sk 21 (congrArg some e6.1) (zab _))) (zbd (riQ 3 rfl rfl rfl rfl (zaa hr.sq)))
   ·
    intro vf pf hR
    have e7 := hR 7 (by decide)
    exact olQ rfl (sk 22 (congrArg some e7.1) (zab _)) (zbd (zbx (k0 := 2) rfl rfl rfl (zaa hr.sq) (by omega)))
   ·
    intro vf pf hR
    have e8 := hR 8 (by decide)
    exact olQ rfl (sk 23 (congrArg some e8.1) (zab _)) (zbd (zat (u := (n.ss.getD i9 sq0).iv) rfl rfl rfl (zaa hr.sq) ((zcy sqC 3 (fun _ => rfl) n.ss sq0 (show i9 < _ by omega) (by decide)).trans rfl)))
   ·
    intro vf pf hR
    have e3 := hR 3 (by decide)
    have e9 := hR 9 (by decide)
    exact olQ rfl (sk 18 (congrArg some e3.1) (sk 24 (congrArg some e9.1) (zab _))) (zal rfl rfl (fun w hm => zgj tos ((n.ss.getD i9 sq0).xs) _ _ _ _ w ((zah 4 rfl) w hm) ((zaa (hr.at (k := i9) (by omega))) w hm) hmk (by omega) (by omega) (hn.xs _ (zch (d := sq0) (by omega))) (by omega)))
   ·
    intro vf pf hR
    have e1 := hR 1 (by decide)
    have e2 := hR 2 (by decide)
    exact olQ rfl (sk 16 (congrArg some e1.1) (sk 17 (congrArg some e2.1) (zab _))) (zbd (riQ 3 rfl rfl rfl rfl (zah 3 rfl)))
   intro vf pf hR
   have e11 := hR 11 (by decide)
   exact olQ rfl (sk 26 (congrArg some e11.1) (zab _)) (zbd (zbx (k0 := 2) rfl rfl rfl (zah 3 rfl) (by omega)))
  intro vf pf hR
  have e10 : (fun v' post => post = [rowE 3 1 v' ((mpS tos ((n.ss.getD i9 sq0).xs))).length (((mpS tos ((n.ss.getD i9 sq0).xs))).map (Value.int .i64))]) (vf 10) (pf 10) := hR 10 (by decide)
  obtain ⟨v6, vE10⟩ : ∃ x, vf 10 = x := ⟨_, rfl⟩
  obtain ⟨p7, pE10⟩ : ∃ x, pf 10 = x := ⟨_, rfl⟩
  have hR8 := e10
  rw [vE10, pE10] at hR8
  subst hR8
  have e12 := hR 12 (by decide)
  have q0 := hR 0 (by decide)
  have q1 := hR 1 (by decide)
  have q2 := hR 2 (by decide)
  have q3 := hR 3 (by decide)
  have q4 := hR 4 (by decide)
  have q5 := hR 5 (by decide)
  have q6 := hR 6 (by decide)
  have q7 := hR 7 (by decide)
  have q8 := hR 8 (by decide)
  have q9 := hR 9 (by decide)
  have q11 := hR 11 (by decide)
  have q12 := hR 12 (by decide)
  refine zce (zbe [12, 7, 6, 4, 3, 2, 1, 0] _ (sk 25 (congrArg some vE10) (sk 27 (congrArg some e12.1) (zab _))) rfl) (by simp only [pE10, vE10, q0.2, q1.2, q2.2, q3.2, q4.2, q5.2, q6.2, q7.2, q8.2, q9.2, q11.2, q12.2, fS] <;> rfl) ?_
  simp only [List.drop_succ_cons, List.drop_zero]
  refine zcr (i := 0) rfl (fun ho9 => ?_)
  refine zcw (i := 4) (n' := (zs.set i9 (Sq.mk (zs.getD i9 sq0).kd (zs.getD i9 sq0).it v6 (mpS tos ((n.ss.getD i9 sq0).xs)))).length) (xs' := ((zs.set i9 (Sq.mk (zs.getD i9 sq0).kd (zs.getD i9 sq0).it v6 (mpS tos ((n.ss.getD i9 sq0).xs)))).flatMap sqC)) rfl rfl rfl rfl rfl rfl ho9 rfl (by first | omega | (simp only [List.length_set]; omega)) List.length_set.symm (flat_set sqC 3 (fun _ => rfl) _ sq0 _ (by first | omega | (simp only [List.length_set]; omega)) (by decide) rfl) rfl (zcb (zcv (reQ 1 rfl (hvQ rfl (vaQ rfl rfl rfl) (enQ 1 rfl ?_)))))
  refine zbo 7 [5, 4, 3, 2, 1, 0, 6] rfl rfl (by decide) ?_
  refine zcx 2 rfl ?_
  refine zbo 6 [0, 5, 4, 3, 2, 1] rfl rfl (by decide) ?_
  exact zbi (i9 + 1) (zs.set i9 (Sq.mk (zs.getD i9 sq0).kd (zs.getD i9 sq0).it v6 (mpS tos ((n.ss.getD i9 sq0).xs)))) [bigE ps2, rowE 3 1 v6 ((mpS tos ((n.ss.getD i9 sq0).xs)).length) ((mpS tos ((n.ss.getD i9 sq0).xs)).map (Value.int .i64))] ⟨by omega, hsi.step (by omega) (by show (_, _, (mpS _ _).length) = _; rw [mpS_len, ← hsx]; rfl) (mpS_ok hmk (hn.xs _ (zch (d := sq0) (by omega)))), fun w hw => ⟨(hps2 w (zba hw List.mem_cons_self)).1.set (zbp (zba hw (List.mem_cons_of_mem _ List.mem_cons_self))), (hps2 w (zba hw List.mem_cons_self)).2⟩⟩ (by omega) (saQ rfl) (.refl _)
 refine ntQ (zaq rfl ?_)
 refine zaz (zdp ?_)
 refine zaf (zax (zac (reQ 1 rfl (hvQ rfl (fdQ 3 rfl rfl rfl) (hvQ rfl (zag rfl rfl rfl (zad 1 rfl rfl)) ?_)))))
 refine hl_q rfl rfl rfl (zal rfl rfl (fun w hm => zgj tos n.os _ _ _ _ w ((zah 4 rfl) w hm) ((zaa hr.ou) w hm) hmk (by omega) (by omega) hn.ou (by omega))) ?_
 intro v10 p11 hR12
 subst hR12
 refine hvQ rfl (fdQ 3 rfl rfl rfl) (zcr (i := 0) rfl (fun ho13 => ?_))
 refine zed (i := 3) (cs' := #[.int .i64 o.ins, o.sv, o.av, v10]) rfl rfl rfl rfl rfl rfl ho13 rfl rfl rfl rfl (ntQ (srQ (hvQ rfl (zar (cs := [.int .i64 o.ins, o.sv, o.av, v10]) rfl rfl rfl rfl rfl (zam 3 rfl 0 rfl)) ?_)))
 have hfin := skel_net (n := n) (m := o) (sv := o.sv) (av := o.av) (ov := v10) (zs := zs) (gs := o.gs) (os := (mpS tos n.os)) hsk ho hsi.sk (by have h9 := ho.an; rw [hsk.fst] at h9; exact h9) ho.a1 (by have h9 := hsi.all (by omega); rwa [show o.cnt = n.fst + (o.gs.length : Int) by rw [← hsk.fst]; rfl] at h9) (by have h9 := mpS_ok hmk hn.ou; rwa [show o.cnt = n.fst + (o.gs.length : Int) by rw [← hsk.fst]; rfl] at h9) (by rw [mpS_len]; omega)
 refine hl_q rfl rfl rfl (zal rfl rfl (fun w hm => Sweep_ret (Nt.mk o.ins o.sv o.av (v10) zs o.gs (mpS tos n.os)) w ⟨zah 4 rfl w hm, (hps2 w (hm.holds _ (zby (i := 6) rfl))).1, (hps2 w (hm.holds _ (zby (i := 6) rfl))).2, zah 0 rfl w hm⟩ hfin.1)) ?_
 intro v14 p15 hR16
 obtain ⟨qs, m, rfl, rfl, hqs, ⟨o1m, o2m, o3m⟩, hmok, hsm, hml⟩ := hR16
 refine zbr (cs' := #[.int .i64 m.ins, m.sv, m.av, m.ov]) (i := 2) (off := 0) (us := [.int .i64 m.ins, m.sv, m.av, m.ov]) rfl rfl rfl rfl rfl rfl rfl (zae rfl (zae o1m (zae o2m (zae o3m zbj)))) rfl rfl rfl (ntQ ?_)
 exact zav (hq_ret (rs := [.cell 6 101]) (vs := [.agg #[.int .i64 m.ins, m.sv, m.av, m.ov]]) rfl ⟨⟨b3, 0, [.int .i64 m.ins, m.sv, m.av, m.ov], rfl, rfl, by kernel_rfl, by kernel_rfl, zam 2 rfl 0 rfl⟩, trivial⟩ rfl (fun w hm => ⟨_, bigE qs, rfl, ⟨_, m, rfl, rfl, hqs, ⟨o1m, o2m, o3m⟩, hmok, hfin.2.trans hsm, hml⟩, hm.sub (.cons_cons _ (.cons _ (.cons _ (.cons _ (.cons _ (.cons _ (.cons _ (.cons _ (.refl _)))))))))⟩))
theorem l10Finish_mut (n o : Nt) (tos : List Int) (tv : Value) (ps : List HP) (w0 : World) (l : List HP) (w : World) (hm : Mem w0 (bigE [rowE 35 3 o.sv o.ss.length (o.ss.flatMap sqC), rowE 3 1 tv tos.length (tos.map (Value.int .i64)), bigE ps] :: l) w) (hr : RdsNt w0 n) (hn : NtOk n) (ho : NtOk o) (hsk : Skel n o) (hmk : MapOk tos n.cnt o.cnt) (hps : ∀ w, (bigE ps).holds w → NtRest w o) (hone : o.sv.oneCell' = true ∧ o.av.oneCell' = true ∧ o.ov.oneCell' = true) :
    Calls Try.prog 76 #[o.agg, n.agg, tv] w (fun e_ w_ => ∃ v_ p_, e_ = .returned v_ ∧ (fun u_ p_ => ∃ (ps : List HP) (m : Nt), u_ = m.agg ∧ p_ = bigE ps ∧ (∀ w, (bigE ps).holds w → RdsNt w m) ∧ (m.sv.oneCell' = true ∧ m.av.oneCell' = true ∧ m.ov.oneCell' = true) ∧ NtOk m ∧ Skel n m ∧ m.gs.length ≤ o.gs.length) v_ p_ ∧ Mem w0 (p_ :: l) w_) :=
  l10Finish_step n o tos tv ps w0 l w hm.unbig hr hn ho hsk hmk hps hone
theorem Hash_ret (n : Nt) (w : World) (hr : RdsNt w n) (hn : NtOk n) :
   Calls Try.prog 57 #[.agg #[.int .i64 n.ins, n.sv, n.av, n.ov]] w (Ret w (fun u_ p_ => ∃ (ps : List HP) (m : Nt), u_ = m.agg ∧ p_ = [bigE ps] ∧ (∀ w, (bigE ps).holds w → RdsNt w m) ∧ (m.sv.oneCell' = true ∧ m.av.oneCell' = true ∧ m.ov.oneCell' = true) ∧ NtOk m ∧ Skel n m ∧ m.gs.length ≤ n.gs.length)) := by
 have hi0 := hn.i0
 have hi1 := hn.i1
 have hs1 := hn.s1
 have ha1 := hn.a1
 have ho1 := hn.o1
 have hcnt : n.cnt = 1 + n.ins + n.ss.length + n.gs.length := rfl
 have hfst : n.fst = 1 + n.ins + n.ss.length := rfl
 refine zbf (N := 74) (args := [.agg #[.int .i64 n.ins, n.sv, n.av, n.ov]]) Try.func57 rfl rfl (srQ ?_)
 refine zdt rfl (zct rfl rfl) ?_
 intro b1
 refine zdt rfl (zbm (z := .agg #[.int .i64 0, .slice none 0 0, .slice none 0 0, .slice none 0 0]) rfl rfl) ?_
 intro b2
 refine ntQ (zfl (hvQ rfl (zar (cs := [.int .i64 n.ins, n.sv, n.av, n.ov]) rfl rfl rfl rfl rfl (zam 1 rfl 0 rfl)) ?_))
 refine zdm rfl (zal rfl rfl (fun w hm => zas (zds n w (hr.below hm.bel) hn))) (zbb 1 rfl (zaq rfl (zcp (srQ (hvQ rfl (zar (cs := [.int .i64 n.ins, n.sv, n.av, n.ov]) rfl rfl rfl rfl rfl (zam 1 rfl 0 rfl)) ?_)))))
 refine hl_q rfl rfl rfl (zal rfl rfl (fun w hm => l10Empty_ret n w (hr.below hm.bel) hn)) ?_
 intro v3 p4 hR5
 obtain ⟨ps, m, tv, rfl, rfl, hps, o1m, ⟨hav, hov, hgs0, hos0⟩, hsk, hmok⟩ := hR5
 simp only [Nt.agg, hav, hov]
 have hskl : m.ss.length = n.ss.length := hsk.len
 have hm0 : NtOk (Nt.mk m.ins m.sv (.slice none 0 0) (.slice none 0 0) m.ss [] []) := by have h9 := hmok; cases m; simp only at hav hov hgs0 hos0; subst hav hov hgs0 hos0; exact h9
 have hsk0 : Skel n (Nt.mk m.ins m.sv (.slice none 0 0) (.slice none 0 0) m.ss [] []) := ⟨hsk.ins, hsk.ss⟩
 refine zao 3 rfl (zdt rfl (zbm (z := .agg #[.int .i64 0, .slice none 0 0, .slice none 0 0, .slice none 0 0]) rfl rfl) ?_)
 intro b6
 refine zbr (cs' := #[.int .i64 m.ins, m.sv, .slice none 0 0, .slice none 0 0]) (i := 0) (off := 0) (us := [.int .i64 m.ins, m.sv, .slice none 0 0, .slice none 0 0]) rfl rfl rfl rfl rfl rfl rfl (zae rfl (zae o1m (zae rfl (zae rfl zbj)))) rfl rfl rfl (zbb 1 rfl (zac (zbc 1 rfl (zaw ?_))))
 refine lkQ4 (α := Nat) (β := Nt) (γ := CRow) (δ := List HP) [0, 1, 2, 3, 10] rfl (fun i o tr ps => [boxE b6 #[.int .i64 o.ins, o.sv, o.av, o.ov] 101, rowE 35 3 o.sv o.ss.length (o.ss.flatMap sqC), rowE 3 1 tr.v tr.xs.length (tr.xs.map (Value.int .i64)), bigE ps, boxE b2 #[.int .i64 0, .slice none 0 0, .slice none 0 0, .slice none 0 0] 101, boxE b1 #[.int .i64 n.ins, n.sv, n.av, n.ov] 101]) (fun i o tr ps => [(4, tr.v), (5, .int .i64 (i : Int))]) (fun i o tr ps => i ≤ n.gs.length ∧ NtOk o ∧ Skel n o ∧ o.gs.length ≤ i ∧ MapOk tr.xs (n.fst + (i : Int)) o.cnt ∧ (∀ w, (bigE ps).holds w → NtRest w o) ∧ (o.sv.oneCell' = true ∧ o.av.oneCell' = true ∧ o.ov.oneCell' = true)) (fun i o tr ps => n.gs.length - i) 0 (Nt.mk m.ins m.sv (.slice none 0 0) (.slice none 0 0) m.ss [] []) (CRow.mk _ (evs2 n.fst.toNat)) _ ⟨by omega, hm0, hsk0, by simp, by have h9 := evs2_ok (k := n.fst.toNat) (m := n.fst) (by omega); rw [Int.toNat_of_nonneg (by omega)] at h9; rw [show (Nt.mk m.ins m.sv (.slice none 0 0) (.slice none 0 0) m.ss [] []).cnt = n.fst by rw [← hsk0.fst]; exact Int.add_zero _]; simpa using h9, fun w hw => ⟨hps w hw, (rd_nil (w0 := w) (l := []) w (Mem.refl w)), (rd_nil (w0 := w) (l := []) w (Mem.refl w))⟩, ⟨o1m, rfl, rfl⟩⟩ (saQ rfl) (pfQ rfl) ?_
 intro i o tr ps hi7
 obtain ⟨hi, ho, hsk, hol, hmk, hps, ⟨o1o, o2o, o3o⟩⟩ := hi7
 have hmk1 := hmk.1
 obtain ⟨hoc1, hoc2, hoc3, hoc4, hoc5, hoc6⟩ := cnt_rng ho
 refine zac (zac (reQ 1 rfl (hvQ rfl (fdQ 2 rfl rfl rfl) (hvQ rfl (zag rfl rfl rfl (zad 5 rfl rfl)) (hvQ rfl (lnQ rfl rfl rfl (zaa hr.an)) ?_)))))
 refine zbh rfl rfl rfl rfl rfl rfl (fun h8 => ?_) (fun h8 => ?_)
 ·
  refine ntQ (zan rfl (zcp (sbQ (zac ?_))))
  have hani := hn.an i (by omega)
  have hia : LtOk (n.gs.getD i an0).a (n.fst + (i : Int)) := hani.1
  have hib : LtOk (n.gs.getD i an0).b (n.fst + (i : Int)) := hani.2
  have hta := (hmk.lit hia).1
  have htb := (hmk.lit hib).1
  have hia2 := hia
  have hib2 := hib
  unfold LtOk at hta htb hia2 hib2
  refine hc_draw4 (l := [boxE b6 #[.int .i64 o.ins, o.sv, o.av, o.ov] 101, rowE 35 3 o.sv o.ss.length (o.ss.flatMap sqC), rowE 3 1 tr.v tr.xs.length (tr.xs.map (Value.int .i64)), bigE ps, boxE b2 #[.int .i64 0, .slice none 0 0, .slice none 0 0, .slice none 0 0] 101, boxE b1 #[.int .i64 n.ins, n.sv, n.av, n.ov] 101]) rfl 43 [0, 1, 2, 3, 4, 5, 6, 7, 8, 9, 10, 11, 12, 13, 14, 15, 16, 17, 18, 19, 20, 21, 22, 23, 24, 25, 26, 27, 28, 29, 30, 31, 32, 33, 34, 35, 36, 37, 38, 39, 40, 41, 42] (List.take 43 _) (List.drop 43 _) [[], [], [], [2], [], [3, 4], [5], [6], [7], [1, 8], [9], [], [11], [], [12, 13], [14], [15], [16], [10, 17], [], [], [20], [], [21, 22], [23], [24], [25], [19, 26], [27], [], [29], [], [30, 31], [32], [33], [34], [28, 35], [0, 18, 36], [37], [37, 38], [37, 38], [], [37, 39, 41]] [some 25, some 26, some 27, some 28, some 29, some 30, some 31, some 32, some 33, some 34, some 35, some 36, some 37, some 38, some 39, some 40, some 41, some 42, some 43, some 44, some 45, some 46, some 47, some 48, some 49, some 50, some 51, some 52, some 53, some 54, some 55, some 56, some 57, some 58, some 59, some 60, some 61, some 62, some 24, some 63, some 64, some 6, none] (fun i_ vs_ v_ p_ => match i_ with | 0 => v_ = .agg #[.int .i64 o.ins, o.sv, o.av, o.ov] ∧ p_ = [] | 1 => v_ = tr.v ∧ p_ = [] | 2 => v_ = .pointer (some ⟨b1, 0 + 2, none⟩) ∧ p_ = [] | 3 => v_ = n.av ∧ p_ = [] | 4 => v_ = .int .i64 (i : Int) ∧ p_ = [] | 5 => v_ = elP n.av (((i : Int)).toNat * 2) ∧ p_ = [] | 6 => v_ = elP n.av (((i : Int)).toNat * 2 + 0) ∧ p_ = [] | 7 => v_ = .int .i64 ((n.gs.getD i an0).a) ∧ p_ = [] | 8 => v_ = .int .i64 (((n.gs.getD i an0).a) / 2) ∧ p_ = [] | 9 => v_ = elP tr.v ((((n.gs.getD i an0).a) / 2).toNat * 1) ∧ p_ = [] | 10 => v_ = .int .i64 (tr.xs.getD ((((n.gs.getD i an0).a) / 2).toNat) 0) ∧ p_ = [] | 11 => v_ = .pointer (some ⟨b1, 0 + 2, none⟩) ∧ p_ = [] | 12 => v_ = n.av ∧ p_ = [] | 13 => v_ = .int .i64 (i : Int) ∧ p_ = [] | 14 => v_ = elP n.av (((i : Int)).toNat * 2) ∧ p_ = [] | 15 => v_ = elP n.av (((i : Int)).toNat * 2 + 0) ∧ p_ = [] | 16 => v_ = .int .i64 ((n.gs.getD i an0).a) ∧ p_ = [] | 17 => v_ = .int .i64 (((n.gs.getD i an0).a) % 2) ∧ p_ = [] | 18 => v_ = .int .i64 (mpL tr.xs ((n.gs.getD i an0).a)) ∧ p_ = [] | 19 => v_ = tr.v ∧ p_ = [] | 20 => v_ = .pointer (some ⟨b1, 0 + 2, none⟩) ∧ p_ = [] | 21 => v_ = n.av ∧ p_ = [] | 22 => v_ = .int .i64 (i : Int) ∧ p_ = [] | 23 => v_ = elP n.av (((i : Int)).toNat * 2) ∧ p_ = [] | 24 => v_ = elP n.av (((i : Int)).toNat * 2 + 1) ∧ p_ = [] | 25 => v_ = .int .i64 ((n.gs.getD i an0).b) ∧ p_ = [] | 26 => v_ = .int .i64 (((n.gs.getD i an0).b) / 2) ∧ p_ = [] | 27 => v_ = elP tr.v ((((n.gs.getD i an0).b) / 2).toNat * 1) ∧ p_ = [] | 28 => v_ = .int .i64 (tr.xs.getD ((((n.gs.getD i an0).b) / 2).toNat) 0) ∧ p_ = [] | 29 => v_ = .pointer (some ⟨b1, 0 + 2, none⟩) ∧ p_ = [] | 30 => v_ = n.av ∧ p_ = [] | 31 => v_ = .int .i64 (i : Int) ∧ p_ = [] | 32 => v_ = elP n.av (((i : Int)).toNat * 2) ∧ p_ = [] | 33 => v_ = elP n.av (((i : Int)).toNat * 2 + 1) ∧ p_ = [] | 34 => v_ = .int .i64 ((n.gs.getD i an0).b) ∧ p_ = [] | 35 => v_ = .int .i64 (((n.gs.getD i an0).b) % 2) ∧ p_ = [] | 36 => v_ = .int .i64 (mpL tr.xs ((n.gs.getD i an0).b)) ∧ p_ = [] | 37 => (fun u_ p_ => ∃ (ps : List HP) (m : Nt) (x : Int), u_ = .tuple #[m.agg, .int .i64 x] ∧ p_ = [rowE 35 3 m.sv m.ss.length (m.ss.flatMap sqC), bigE ps] ∧ (∀ w, (bigE ps).holds w → NtRest w m) ∧ (m.sv.oneCell' = true ∧ m.av.oneCell' = true ∧ m.ov.oneCell' = true) ∧ Grew o m x) v_ p_ | 38 => v_ = .tuple #[.agg #[.int .i64 (tInH (List.getD vs_ 0 undef)), (tSvH (List.getD vs_ 0 undef)), (tAvH (List.getD vs_ 0 undef)), (tOvH (List.getD vs_ 0 undef))], .int .i64 (tXH (List.getD vs_ 0 undef))] ∧ p_ = [] | 39 => v_ = .agg #[.int .i64 (tInH (List.getD vs_ 0 undef)), (tSvH (List.getD vs_ 0 undef)), (tAvH (List.getD vs_ 0 undef)), (tOvH (List.getD vs_ 0 undef))] ∧ p_ = [] | 40 => v_ = .int .i64 (tXH (List.getD vs_ 0 undef)) ∧ p_ = [] | 41 => IsBox #[.int .i64 0, .slice none 0 0, .slice none 0 0, .slice none 0 0] 101 v_ p_ | 42 => p_ = [boxE (blkOf (List.getD vs_ 2 undef)) #[.int .i64 (tInH (List.getD vs_ 0 undef)), (tSvH (List.getD vs_ 0 undef)), (tAvH (List.getD vs_ 0 undef)), (tOvH (List.getD vs_ 0 undef))] 101] | _ => True) [[], [], [], [2], [], [3, 4], [5], [6], [7], [1, 8], [9], [], [11], [], [12, 13], [14], [15], [16], [10, 17], [], [], [20], [], [21, 22], [23], [24], [25], [19, 26], [27], [], [29], [], [30, 31], [32], [33], [34], [28, 35], [0, 18, 36], [37], [37, 38], [37, 38], [], [37, 39]] [none, none, none, none, none, none, none, none, none, none, none, none, none, none, none, none, none, none, none, none, none, none, none, none, none, none, none, none, none, none, none, none, none, none, none, none, none, none, none, none, none, none, some 41] [] [0, 1, 2, 3, 4, 5, 6, 7, 8, 9, 10, 11, 12, 13, 14, 15, 16, 17, 18, 19, 20, 21, 22, 23, 24, 25, 26, 27, 28, 29, 30, 31, 32, 33, 34, 35, 36, 37, 38, 39, 40, 42] 44 (List.take_append_drop 43 _).symm (by kernel_rfl) (by kernel_rfl) (by kernel_rfl) rfl rfl ?_ ?_
  ·
   refine ⟨?_, ?_, ?_, ?_, ?_, ?_, ?_, ?_, ?_, ?_, ?_, ?_, ?_, ?_, ?_, ?_, ?_, ?_, ?_, ?_, ?_, ?_, ?_, ?_, ?_, ?_, ?_, ?_, ?_, ?_, ?_, ?_, ?_, ?_, ?_, ?_, ?_, ?_, ?_, ?_, ?_, ?_, ?_, trivial⟩
   ·
    intro vf pf hmu hR
    refine zdz [] [] rfl (zbq (zai [3] rfl) (List.sublist_append_right _ _) ?_)
    exact zbd (zar (cs := [.int .i64 o.ins, o.sv, o.av, o.ov]) rfl rfl rfl rfl rfl (zam 0 rfl 0 rfl))
   ·
    intro vf pf hmu hR
    refine zdz [] [] rfl (zbu (zai [4] rfl) ?_)
    exact zbd (zaj rfl)
   ·
    intro vf pf hmu hR
    refine zdz [] [] rfl (zbu (zai [1] rfl) ?_)
    exact zbd (fdQ 2 rfl rfl rfl)
   ·
    intro vf pf hmu hR
    have e2 := hR 2 (by decide)
    refine zdz [2] [2] rfl (zbq (sk 27 (congrArg some e2.1) (zab _)) (List.sublist_append_right _ _) ?_)
    exact zbd (zag rfl rfl rfl (zad 5 rfl rfl))
   ·
    intro vf pf hmu hR
    refine zdz [] [] rfl (zbu (zai [5] rfl) ?_)
    exact zbd (zaj rfl)
   ·
    intro vf pf hmu hR
    have e3 := hR 3 (by decide)
    have e4 := hR 4 (by decide)
    refine zdz [3, 4] [3, 4] rfl (zbq (sk 28 (congrArg some e3.1) (sk 29 (congrArg some e4.1) (zab _))) (List.sublist_append_right _ _) ?_)
    exact zbd (riQ 2 rfl rfl rfl rfl (zaa hr.an))
   ·
    intro vf pf hmu hR
    have e5 := hR 5 (by decide)
    refine zdz [5] [5] rfl (zbq (sk 30 (congrArg some e5.1) (zab _)) (List.sublist_append_right _ _) ?_)
    exact zbd (zbx (k0 := 0) rfl rfl rfl (zaa hr.an) (by omega))
   ·
    intro vf pf hmu hR
    have e6 := hR 6 (by decide)
    refine zdz [6] [6] rfl (zbq (sk 31 (congrArg some e6.1) (zab _)) (List.sublist_append_right _ _) ?_)
    exact zbd (zat (u := .int .i64 ((n.gs.getD i an0).a)) rfl rfl rfl (zaa hr.an) ((zcy anC 2 (fun _ => rfl) n.gs an0 (show i < _ by omega) (by decide)).trans rfl))
   ·
    intro vf pf hmu hR
    have e7 := hR 7 (by decide)
    refine zdz [7] [7] rfl (zbu (sk 32 (congrArg some e7.1) (zab _)) ?_)
    exact zbd (zep rfl rfl rfl (by refine ⟨?_, ?_, ?_⟩ <;> omega))
   ·
    intro vf pf hmu hR
    have e1 := hR 1 (by decide)
    have e8 := hR 8 (by decide)
    refine zdz [1, 8] [1, 8] rfl (zbq (sk 26 (congrArg some e1.1) (sk 33 (congrArg some e8.1) (zab _))) (List.sublist_append_right _ _) ?_)
    exact zbd (riQ 1 rfl rfl rfl rfl (zah 2 rfl))
   ·
    intro vf pf hmu hR
    have e9 := hR 9 (by decide)
    refine zdz [9] [9] rfl (zbq (sk 34 (congrArg some e9.1) (zab _)) (List.sublist_append_right _ _) ?_)
    exact zbd (lzQ rfl rfl rfl (zah 2 rfl))
   ·
    intro vf pf hmu hR
    refine zdz [] [] rfl (zbu (zai [1] rfl) ?_)
    exact zbd (fdQ 2 rfl rfl rfl)
   ·
    intro vf pf hmu hR
    have e11 := hR 11 (by decide)
    refine zdz [11] [11] rfl (zbq (sk 36 (congrArg some e11.1) (zab _)) (List.sublist_append_right _ _) ?_)
    exact zbd (zag rfl rfl rfl (zad 5 rfl rfl))
   ·
    intro vf pf hmu hR
    refine zdz [] [] rfl (zbu (zai [5] rfl) ?_)
    exact zbd (zaj rfl)
   ·
    intro vf pf hmu hR
    have e12 := hR 12 (by decide)
    have e13 := hR 13 (by decide)
    refine zdz [12, 13] [12, 13] rfl (zbq (sk 37 (congrArg some e12.1) (sk 38 (congrArg some e13.1) (zab _))) (List.sublist_append_right _ _) ?_)
    exact zbd (riQ 2 rfl rfl rfl rfl (zaa hr.an))
   ·
    intro vf pf hmu hR
    have e14 := hR 14 (by decide)
    refine zdz [14] [14] rfl (zbq (sk 39 (congrArg some e14.1) (zab _)) (List.sublist_append_right _ _) ?_)
    exact zbd (zbx (k0 := 0) rfl rfl rfl (zaa hr.an) (by omega))
   ·
    intro vf pf hmu hR
    have e15 := hR 15 (by decide)
    refine zdz [15] [15] rfl (zbq (sk 40 (congrArg some e15.1) (zab _)) (List.sublist_append_right _ _) ?_)
    exact zbd (zat (u := .int .i64 ((n.gs.getD i an0).a)) rfl rfl rfl (zaa hr.an) ((zcy anC 2 (fun _ => rfl) n.gs an0 (show i < _ by omega) (by decide)).trans rfl))
   ·
    intro vf pf hmu hR
    have e16 := hR 16 (by decide)
    refine zdz [16] [16] rfl (zbu (sk 41 (congrArg some e16.1) (zab _)) ?_)
    exact zbd (zdg rfl (by decide) rfl rfl (r := ((n.gs.getD i an0).a) % 2) (Bit.and_one _ (by omega) (by omega)))
   ·
    intro vf pf hmu hR
    have e10 := hR 10 (by decide)
    have e17 := hR 17 (by decide)
    refine zdz [10, 17] [10, 17] rfl (zbu (sk 35 (congrArg some e10.1) (sk 42 (congrArg some e17.1) (zab _))) ?_)
    exact zbd (zdg rfl (by decide) rfl rfl (r := mpL tr.xs ((n.gs.getD i an0).a)) (xor_mp (by omega) (by omega)))
   ·
    intro vf pf hmu hR
    refine zdz [] [] rfl (zbu (zai [4] rfl) ?_)
    exact zbd (zaj rfl)
   ·
    intro vf pf hmu hR
    refine zdz [] [] rfl (zbu (zai [1] rfl) ?_)
    exact zbd (fdQ 2 rfl rfl rfl)
   ·
    intro vf pf hmu hR
    have e20 := hR 20 (by decide)
    refine zdz [20] [20] rfl (zbq (sk 45 (congrArg some e20.1) (zab _)) (List.sublist_append_right _ _) ?_)
    exact zbd (zag rfl rfl rfl (zad 5 rfl rfl))
   ·
    intro vf pf hmu hR
    refine zdz [] [] rfl (zbu (zai [5] rfl) ?_)
    exact zbd (zaj rfl)
   ·
    intro vf pf hmu hR
    have e21 := hR 21 (by decide)
    have e22 := hR 22 (by decide)
    refine zdz [21, 22] [21, 22] rfl (zbq (sk 46 (congrArg some e21.1) (sk 47 (congrArg some e22.1) (zab _))) (List.sublist_append_right _ _) ?_)
    exact zbd (riQ 2 rfl rfl rfl rfl (zaa hr.an))
   ·
    intro vf pf hmu hR
    have e23 := hR 23 (by decide)
    refine zdz [23] [23] rfl (zbq (sk 48 (congrArg some e23.1) (zab _)) (List.sublist_append_right _ _) ?_)
    exact zbd (zbx (k0 := 1) rfl rfl rfl (zaa hr.an) (by omega))
   ·
    intro vf pf hmu hR
    have e24 := hR 24 (by decide)
    refine zdz [24] [24] rfl (zbq (sk 49 (congrArg some e24.1) (zab _)) (List.sublist_append_right _ _) ?_)
    exact zbd (zat (u := .int .i64 ((n.gs.getD i an0).b)) rfl rfl rfl (zaa hr.an) ((zcy anC 2 (fun _ => rfl) n.gs an0 (show i < _ by omega) (by decide)).trans rfl))
   ·
    intro vf pf hmu hR
    have e25 := hR 25 (by decide)
    refine zdz [25] [25] rfl (zbu (sk 50 (congrArg some e25.1) (zab _)) ?_)
    exact zbd (zep rfl rfl rfl (by refine ⟨?_, ?_, ?_⟩ <;> omega))
   ·
    intro vf pf hmu hR
    have e19 := hR 19 (by decide)
    have e26 := hR 26 (by decide)
    refine zdz [19, 26] [19, 26] rfl (zbq (sk 44 (congrArg some e19.1) (sk 51 (congrArg some e26.1) (zab _))) (List.sublist_append_right _ _) ?_)
    exact zbd (riQ 1 rfl rfl rfl rfl (zah 2 rfl))
   ·
    intro vf pf hmu hR
    have e27 := hR 27 (by decide)
    refine zdz [27] [27] rfl (zbq (sk 52 (congrArg some e27.1) (zab _)) (List.sublist_append_right _ _) ?_)
    exact zbd (lzQ rfl rfl rfl (zah 2 rfl))
   ·
    intro vf pf hmu hR
    refine zdz [] [] rfl (zbu (zai [1] rfl) ?_)
    exact zbd (fdQ 2 rfl rfl rfl)
   ·
    intro vf pf hmu hR
    have e29 := hR 29 (by decide)
    refine zdz [29] [29] rfl (zbq (sk 54 (congrArg some e29.1) (zab _)) (List.sublist_append_right _ _) ?_)
    exact zbd (zag rfl rfl rfl (zad 5 rfl rfl))
   ·
    intro vf pf hmu hR
    refine zdz [] [] rfl (zbu (zai [5] rfl) ?_)
    exact zbd (zaj rfl)
   ·
    intro vf pf hmu hR
    have e30 := hR 30 (by decide)
    have e31 := hR 31 (by decide)
    refine zdz [30, 31] [30, 31] rfl (zbq (sk 55 (congrArg some e30.1) (sk 56 (congrArg some e31.1) (zab _))) (List.sublist_append_right _ _) ?_)
    exact zbd (riQ 2 rfl rfl rfl rfl (zaa hr.an))
   ·
    intro vf pf hmu hR
    have e32 := hR 32 (by decide)
    refine zdz [32] [32] rfl (zbq (sk 57 (congrArg some e32.1) (zab _)) (List.sublist_append_right _ _) ?_)
    exact zbd (zbx (k0 := 1) rfl rfl rfl (zaa hr.an) (by omega))
   ·
    intro vf pf hmu hR
    have e33 := hR 33 (by decide)
    refine zdz [33] [33] rfl (zbq (sk 58 (congrArg some e33.1) (zab _)) (List.sublist_append_right _ _) ?_)
    exact zbd (zat (u := .int .i64 ((n.gs.getD i an0).b)) rfl rfl rfl (zaa hr.an) ((zcy anC 2 (fun _ => rfl) n.gs an0 (show i < _ by omega) (by decide)).trans rfl))
   ·
    intro vf pf hmu hR
    have e34 := hR 34 (by decide)
    refine zdz [34] [34] rfl (zbu (sk 59 (congrArg some e34.1) (zab _)) ?_)
    exact zbd (zdg rfl (by decide) rfl rfl (r := ((n.gs.getD i an0).b) % 2) (Bit.and_one _ (by omega) (by omega)))
   ·
    intro vf pf hmu hR
    have e28 := hR 28 (by decide)
    have e35 := hR 35 (by decide)
    refine zdz [28, 35] [28, 35] rfl (zbu (sk 53 (congrArg some e28.1) (sk 60 (congrArg some e35.1) (zab _))) ?_)
    exact zbd (zdg rfl (by decide) rfl rfl (r := mpL tr.xs ((n.gs.getD i an0).b)) (xor_mp (by omega) (by omega)))
   ·
    intro vf pf hmu hR
    have e0 := hR 0 (by decide)
    have e18 := hR 18 (by decide)
    have e36 := hR 36 (by decide)
    refine zdz [0, 18, 36] [0, 18, 36] rfl (zbq (sk 25 (congrArg some e0.1) (sk 43 (congrArg some e18.1) (sk 61 (congrArg some e36.1) (zab _)))) (List.sublist_append_right _ _) ?_)
    exact zal rfl rfl (fun w hm => AddAndS_ret o (mpL tr.xs ((n.gs.getD i an0).a)) (mpL tr.xs ((n.gs.getD i an0).b)) w ((hps w (hm.holds _ (zby (i := 3) rfl))).rds (zah 1 rfl w hm)) ho (hmk.lit hia).2 (hmk.lit hib).2 (by omega))
   ·
    intro vf pf hmu hR
    have e37 : (fun u_ p_ => ∃ (ps : List HP) (m : Nt) (x : Int), u_ = .tuple #[m.agg, .int .i64 x] ∧ p_ = [rowE 35 3 m.sv m.ss.length (m.ss.flatMap sqC), bigE ps] ∧ (∀ w, (bigE ps).holds w → NtRest w m) ∧ (m.sv.oneCell' = true ∧ m.av.oneCell' = true ∧ m.ov.oneCell' = true) ∧ Grew o m x) (vf 37) (pf 37) := hR 37 (by decide)
    obtain ⟨v9, vE37⟩ : ∃ x, vf 37 = x := ⟨_, rfl⟩
    obtain ⟨p10, pE37⟩ : ∃ x, pf 37 = x := ⟨_, rfl⟩
    have hR11 := e37
    rw [vE37, pE37] at hR11
    obtain ⟨qs, m2, x, rfl, rfl, hqs, ⟨o1q, o2q, o3q⟩, hgr⟩ := hR11
    refine zdz [37] [37] rfl (zcc (sk 62 (congrArg some vE37) (zab _)) (by simp only [pE37, vE37, fS] <;> rfl) ?_)
    exact zco (zbd (zaj rfl)) (fun _ _ h => ⟨h.1.trans (by show _ = (.tuple #[.agg #[.int .i64 (tInH (vf 37)), (tSvH (vf 37)), (tAvH (vf 37)), (tOvH (vf 37))], .int .i64 (tXH (vf 37))] : Value); first | (rw [vE37]; done) | (rw [vE37]; rfl)), h.2⟩)
   ·
    intro vf pf hmu hR
    have e37 : (fun u_ p_ => ∃ (ps : List HP) (m : Nt) (x : Int), u_ = .tuple #[m.agg, .int .i64 x] ∧ p_ = [rowE 35 3 m.sv m.ss.length (m.ss.flatMap sqC), bigE ps] ∧ (∀ w, (bigE ps).holds w → NtRest w m) ∧ (m.sv.oneCell' = true ∧ m.av.oneCell' = true ∧ m.ov.oneCell' = true) ∧ Grew o m x) (vf 37) (pf 37) := hR 37 (by decide)
    obtain ⟨v9, vE37⟩ : ∃ x, vf 37 = x := ⟨_, rfl⟩
    obtain ⟨p10, pE37⟩ : ∃ x, pf 37 = x := ⟨_, rfl⟩
    have hR11 := e37
    rw [vE37, pE37] at hR11
    obtain ⟨qs, m2, x, rfl, rfl, hqs, ⟨o1q, o2q, o3q⟩, hgr⟩ := hR11
    have e38 : (vf 38) = .tuple #[.agg #[.int .i64 (tInH (vf 37)), (tSvH (vf 37)), (tAvH (vf 37)), (tOvH (vf 37))], .int .i64 (tXH (vf 37))] ∧ (pf 38) = [] := hR 38 (by decide)
    rw [vE37] at e38
    refine zdz [37, 38] [37, 38] rfl (zcc (sk 24 (congrArg some e38.1) (zab _)) (by simp only [pE37, vE37, e38.2, fS] <;> rfl) ?_)
    exact zco (zbd (zaj rfl)) (fun _ _ h => ⟨h.1.trans (by show _ = (.agg #[.int .i64 (tInH (vf 37)), (tSvH (vf 37)), (tAvH (vf 37)), (tOvH (vf 37))] : Value); first | (rw [vE37]; done) | (rw [vE37]; rfl)), h.2⟩)
   ·
    intro vf pf hmu hR
    have e37 : (fun u_ p_ => ∃ (ps : List HP) (m : Nt) (x : Int), u_ = .tuple #[m.agg, .int .i64 x] ∧ p_ = [rowE 35 3 m.sv m.ss.length (m.ss.flatMap sqC), bigE ps] ∧ (∀ w, (bigE ps).holds w → NtRest w m) ∧ (m.sv.oneCell' = true ∧ m.av.oneCell' = true ∧ m.ov.oneCell' = true) ∧ Grew o m x) (vf 37) (pf 37) := hR 37 (by decide)
    obtain ⟨v9, vE37⟩ : ∃ x, vf 37 = x := ⟨_, rfl⟩
    obtain ⟨p10, pE37⟩ : ∃ x, pf 37 = x := ⟨_, rfl⟩
    have hR11 := e37
    rw [vE37, pE37] at hR11
    obtain ⟨qs, m2, x, rfl, rfl, hqs, ⟨o1q, o2q, o3q⟩, hgr⟩ := hR11
    have e38 : (vf 38) = .tuple #[.agg #[.int .i64 (tInH (vf 37)), (tSvH (vf 37)), (tAvH (vf 37)), (tOvH (vf 37))], .int .i64 (tXH (vf 37))] ∧ (pf 38) = [] := hR 38 (by decide)
    rw [vE37] at e38
    refine zdz [37, 38] [37, 38] rfl (zcc (sk 24 (congrArg some e38.1) (zab _)) (by simp only [pE37, vE37, e38.2, fS] <;> rfl) ?_)
    exact zco (zbd (zaj rfl)) (fun _ _ h => ⟨h.1.trans (by show _ = (.int .i64 (tXH (vf 37)) : Value); first | (rw [vE37]; done) | (rw [vE37]; rfl)), h.2⟩)
   ·
    intro vf pf hmu hR
    refine zdz [] [] rfl (zbq (zab _) (List.sublist_append_right _ _) ?_)
    exact zbm (z := .agg #[.int .i64 0, .slice none 0 0, .slice none 0 0, .slice none 0 0]) rfl rfl
   intro vf pf hmu hR
   have e37 : (fun u_ p_ => ∃ (ps : List HP) (m : Nt) (x : Int), u_ = .tuple #[m.agg, .int .i64 x] ∧ p_ = [rowE 35 3 m.sv m.ss.length (m.ss.flatMap sqC), bigE ps] ∧ (∀ w, (bigE ps).holds w → NtRest w m) ∧ (m.sv.oneCell' = true ∧ m.av.oneCell' = true ∧ m.ov.oneCell' = true) ∧ Grew o m x) (vf 37) (pf 37) := hR 37 (by decide)
   obtain ⟨v9, vE37⟩ : ∃ x, vf 37 = x := ⟨_, rfl⟩
   obtain ⟨p10, pE37⟩ : ∃ x, pf 37 = x := ⟨_, rfl⟩
   have hR11 := e37
   rw [vE37, pE37] at hR11
   obtain ⟨qs, m2, x, rfl, rfl, hqs, ⟨o1q, o2q, o3q⟩, hgr⟩ := hR11
   have e39 : (vf 39) = .agg #[.int .i64 (tInH (vf 37)), (tSvH (vf 37)), (tAvH (vf 37)), (tOvH (vf 37))] ∧ (pf 39) = [] := hR 39 (by decide)
   rw [vE37] at e39
   have e41 : IsBox #[.int .i64 0, .slice none 0 0, .slice none 0 0, .slice none 0 0] 101 (vf 41) (pf 41) := hR 41 (by decide)
   obtain ⟨b12, vE41, pE41⟩ := e41
   refine Or.inl ⟨rfl, ?_⟩
   show RunM _ _ _ (pf 41) (([37, 39] : List Nat).flatMap pf ++ _) (envOf3 _ vf [37, 39, 41] ++ _) _ _
   rw [pE41]
   exact zdd (sk 6 (congrArg some vE41) (sk 63 (congrArg some e39.1) (zab _))) (by simp only [pE37, vE37, e39.2, fS] <;> rfl) (rm_mono (zgc (us := [.int .i64 m2.ins, m2.sv, m2.av, m2.ov]) (off := 0) 0 rfl rfl rfl rfl rfl rfl (zae rfl (zae o1q (zae o2q (zae o3q zbj)))) rfl rfl) (fun v_ p_ h => by show p_ = [boxE (blkOf (vf 41)) #[.int .i64 (tInH (vf 37)), (tSvH (vf 37)), (tAvH (vf 37)), (tOvH (vf 37))] 101]; rw [vE37, vE41]; exact h))
  intro vf pf hmu hR
  have e37 : (fun u_ p_ => ∃ (ps : List HP) (m : Nt) (x : Int), u_ = .tuple #[m.agg, .int .i64 x] ∧ p_ = [rowE 35 3 m.sv m.ss.length (m.ss.flatMap sqC), bigE ps] ∧ (∀ w, (bigE ps).holds w → NtRest w m) ∧ (m.sv.oneCell' = true ∧ m.av.oneCell' = true ∧ m.ov.oneCell' = true) ∧ Grew o m x) (vf 37) (pf 37) := hR 37 (by decide)
  obtain ⟨v9, vE37⟩ : ∃ x, vf 37 = x := ⟨_, rfl⟩
  obtain ⟨p10, pE37⟩ : ∃ x, pf 37 = x := ⟨_, rfl⟩
  have hR11 := e37
  rw [vE37, pE37] at hR11
  obtain ⟨qs, m2, x, rfl, rfl, hqs, ⟨o1q, o2q, o3q⟩, hgr⟩ := hR11
  have e40 : (vf 40) = .int .i64 (tXH (vf 37)) ∧ (pf 40) = [] := hR 40 (by decide)
  rw [vE37] at e40
  have e41 : IsBox #[.int .i64 0, .slice none 0 0, .slice none 0 0, .slice none 0 0] 101 (vf 41) (pf 41) := hR 41 (by decide)
  obtain ⟨b12, vE41, pE41⟩ := e41
  have e42 : (pf 42) = [boxE (blkOf (vf 41)) #[.int .i64 (tInH (vf 37)), (tSvH (vf 37)), (tAvH (vf 37)), (tOvH (vf 37))] 101] := hR 42 (by decide)
  rw [vE37, vE41] at e42
  have pE42 := e42
  have q0 := hR 0 (by decide)
  have q1 := hR 1 (by decide)
  have q2 := hR 2 (by decide)
  have q3 := hR 3 (by decide)
  have q4 := hR 4 (by decide)
  have q5 := hR 5 (by decide)
  have q6 := hR 6 (by decide)
  have q7 := hR 7 (by decide)
  have q8 := hR 8 (by decide)
  have q9 := hR 9 (by decide)
  have q10 := hR 10 (by decide)
  have q11 := hR 11 (by decide)
  have q12 := hR 12 (by decide)
  have q13 := hR 13 (by decide)
  have q14 := hR 14 (by decide)
  have q15 := hR 15 (by decide)
  have q16 := hR 16 (by decide)
  have q17 := hR 17 (by decide)
  have q18 := hR 18 (by decide)
  have q19 := hR 19 (by decide)
  have q20 := hR 20 (by decide)
  have q21 := hR 21 (by decide)
  have q22 := hR 22 (by decide)
  have q23 := hR 23 (by decide)
  have q24 := hR 24 (by decide)
  have q25 := hR 25 (by decide)
  have q26 := hR 26 (by decide)
  have q27 := hR 27 (by decide)
  have q28 := hR 28 (by decide)
  have q29 := hR 29 (by decide)
  have q30 := hR 30 (by decide)
  have q31 := hR 31 (by decide)
  have q32 := hR 32 (by decide)
  have q33 := hR 33 (by decide)
  have q34 := hR 34 (by decide)
  have q35 := hR 35 (by decide)
  have q36 := hR 36 (by decide)
  have q38 := hR 38 (by decide)
  have q39 := hR 39 (by decide)
  have q40 := hR 40 (by decide)
  refine zce (zbe [5, 4, 3, 2, 1, 0] _ (sk 6 (congrArg some vE41) (sk 10 rfl (sk 21 rfl (sk 64 (congrArg some e40.1) (zab _))))) rfl) (by simp only [pE37, vE37, pE42, q0.2, q1.2, q2.2, q3.2, q4.2, q5.2, q6.2, q7.2, q8.2, q9.2, q10.2, q11.2, q12.2, q13.2, q14.2, q15.2, q16.2, q17.2, q18.2, q19.2, q20.2, q21.2, q22.2, q23.2, q24.2, q25.2, q26.2, q27.2, q28.2, q29.2, q30.2, q31.2, q32.2, q33.2, q34.2, q35.2, q36.2, q38.2, q39.2, q40.2, fS] <;> rfl) ?_
  simp only [List.drop_succ_cons, List.drop_zero]
  refine zbb 1 rfl (srQ (hvQ rfl (zar (cs := [.int .i64 m2.ins, m2.sv, m2.av, m2.ov]) rfl rfl rfl rfl rfl (zam 2 rfl 0 rfl)) ?_))
  refine zbr (cs' := #[.int .i64 m2.ins, m2.sv, m2.av, m2.ov]) (i := 3) (off := 0) (us := [.int .i64 m2.ins, m2.sv, m2.av, m2.ov]) rfl rfl rfl rfl rfl rfl rfl (zae rfl (zae o1q (zae o2q (zae o3q zbj)))) rfl rfl rfl (ntQ (reQ 2 rfl ?_))
  refine zdu rfl (zau (z := .int .i64 0) (s := 1) (cs := ([x].map (Value.int .i64))) rfl Try.underlying26 rfl (by decide) rfl (by kernel_rfl) rfl) ?_
  intro g13
  refine zcf (i := 6) (z := .int .i64 0) (bytes := 8) rfl rfl rfl rfl Try.underlying26 (by kernel_rfl) rfl rfl rfl rfl (zah 0 rfl) (zbw _) (by first | omega | (simp; done) | (simp; omega)) (zbt tr.xs ([x])) (zcn tr.xs ([x])) (fun _ => rfl) ?_
  intro v14
  refine enQ 1 rfl (zcv (reQ 1 rfl (hvQ rfl (vaQ rfl rfl rfl) (enQ 1 rfl ?_))))
  have hmk2 : MapOk (tr.xs ++ [x]) (n.fst + ((i + 1 : Nat) : Int)) m2.cnt := by have h9 := (hmk.up hgr.cnt).app (x := x) hgr.lit; rwa [show n.fst + (i : Int) + 1 = n.fst + ((i + 1 : Nat) : Int) by omega] at h9
  have hl1 := hgr.l1
  refine zbo 10 [9, 8, 2, 6, 1, 4] rfl rfl (by decide) ?_
  exact zca (i + 1) m2 (CRow.mk v14 (tr.xs ++ ([x]))) qs ⟨by omega, hgr.ok, hsk.trans hgr.sk, by omega, hmk2, hqs, ⟨o1q, o2q, o3q⟩⟩ (by omega) (saQ rfl) (pfQ rfl)
 refine ntQ (zaq rfl ?_)
 refine zaz (zdp ?_)
 refine zaf (zax (srQ (hvQ rfl (zar (cs := [.int .i64 o.ins, o.sv, o.av, o.ov]) rfl rfl rfl rfl rfl (zam 0 rfl 0 rfl)) (hvQ rfl (zar (cs := [.int .i64 n.ins, n.sv, n.av, n.ov]) rfl rfl rfl rfl rfl (zam 5 rfl 0 rfl)) (zao 1 rfl ?_)))))
 refine zgf 6 [5, 4, 0, 3, 2, 1] rfl rfl (by decide) ?_
 refine hl_pool 3 rfl ?_
 refine zdj (R := (fun u_ p_ => ∃ (ps : List HP) (m : Nt), u_ = m.agg ∧ p_ = bigE ps ∧ (∀ w, (bigE ps).holds w → RdsNt w m) ∧ (m.sv.oneCell' = true ∧ m.av.oneCell' = true ∧ m.ov.oneCell' = true) ∧ NtOk m ∧ Skel n m ∧ m.gs.length ≤ o.gs.length)) 0 rfl rfl rfl rfl rfl (fun l' w hm => l10Finish_mut n o tr.xs tr.v ps _ _ w hm hr hn ho hsk (by rwa [show n.fst + (i : Int) = n.cnt by omega] at hmk) hps ⟨o1o, o2o, o3o⟩) ?_
 intro v15 p16 hR17
 obtain ⟨rs, m3, rfl, rfl, hrs, ⟨o1r, o2r, o3r⟩, hm3, hs3, hl3⟩ := hR17
 refine zeb (l' := [bigE rs, boxE b6 #[.int .i64 o.ins, o.sv, o.av, o.ov] 101, boxE b2 #[.int .i64 0, .slice none 0 0, .slice none 0 0, .slice none 0 0] 101, boxE b1 #[.int .i64 n.ins, n.sv, n.av, n.ov] 101]) rfl ?_
 refine zbr (cs' := #[.int .i64 m3.ins, m3.sv, m3.av, m3.ov]) (i := 2) (off := 0) (us := [.int .i64 m3.ins, m3.sv, m3.av, m3.ov]) rfl rfl rfl rfl rfl rfl rfl (zae rfl (zae o1r (zae o2r (zae o3r zbj)))) rfl rfl rfl (ntQ ?_)
 exact zav (zdn (rs := [.cell 2 101]) (vs := [.agg #[.int .i64 m3.ins, m3.sv, m3.av, m3.ov]]) (post := [bigE rs]) rfl ⟨⟨b2, 0, [.int .i64 m3.ins, m3.sv, m3.av, m3.ov], rfl, rfl, by kernel_rfl, by kernel_rfl, zam 2 rfl 0 rfl⟩, trivial⟩ rfl (slQ [0] rfl) ⟨_, m3, rfl, rfl, hrs, ⟨o1r, o2r, o3r⟩, hm3, hs3, by omega⟩)
theorem nodup_rng : ∀ (N : Nat) (ns : List Int), ns.Nodup → (∀ x ∈ ns, 0 ≤ x ∧ x < N) → ns.length ≤ N
  | 0, [], _, _ => Nat.le_refl _
  | 0, x :: t, _, hr => by have := hr x List.mem_cons_self; omega
  | N + 1, ns, hn, hr => by
    have h1 : (ns.erase (N : Int)).Nodup := hn.erase _
    have h2 := nodup_rng N (ns.erase (N : Int)) h1 (fun x hx => by
      have hm := (hn.mem_erase_iff).1 hx
      have := hr x hm.2
      have hne := hm.1
      omega)
    by_cases c : (N : Int) ∈ ns
    · rw [List.length_erase_of_mem c] at h2
      omega
    · rw [List.erase_of_not_mem c] at h2; omega
structure Srch (c : Nat) (back queue : List Int) : Prop where
  len : back.length = c
  rng : ∀ x ∈ queue, 0 ≤ x ∧ x < c
  nodup : queue.Nodup
  set : ∀ x ∈ queue, back.getD x.toNat 0 ≠ -2
  prec : ∀ j, j < c → back.getD j 0 = -2 ∨ ((j : Int) ∈ queue ∧ (back.getD j 0 = -1 ∨ (back.getD j 0 ∈ queue ∧ queue.idxOf (back.getD j 0) < queue.idxOf (j : Int))))
theorem getD_rep' {α : Type} {d x : α} {n i : Nat} (h : i < n) : (List.replicate n x).getD i d = x := by
  rw [List.getD_eq_getElem?_getD, List.getElem?_replicate, if_pos h]; rfl
theorem Srch.start (c : Nat) : Srch c (List.replicate c (-2)) [] := ⟨by simp, fun x hx => (by cases hx), by simp, fun x hx => (by cases hx), fun j hj => .inl (getD_rep' hj)⟩
theorem Srch.qlen {c : Nat} {back queue : List Int} (h : Srch c back queue) : queue.length ≤ c := nodup_rng c queue h.nodup h.rng
theorem Srch.at {c : Nat} {back queue : List Int} (h : Srch c back queue) {q : Nat} (hq : q < queue.length) : 0 ≤ queue.getD q 0 ∧ queue.getD q 0 < c := h.rng _ (zch hq)
theorem Srch.put {c : Nat} {back queue : List Int} (h : Srch c back queue) {y x : Int} (hy : 0 ≤ y ∧ y < c) (hb : back.getD y.toNat 0 = -2) (hx : x = -1 ∨ x ∈ queue) : Srch c (back.set y.toNat x) (queue ++ [y]) := by
  have hl := h.len
  have hn : ¬ y ∈ queue := fun hm => h.set y hm hb
  have hx2 : x ≠ -2 := by
    rcases hx with e | e
    · omega
    · have := h.rng x e; omega
  have hget : ∀ j, j < c → (back.set y.toNat x).getD j 0 = if y.toNat = j then x else back.getD j 0 := fun j hj => by
    by_cases e : y.toNat = j
    · subst e; rw [if_pos rfl, zcg (by omega)]
    · rw [if_neg e, List.getD_eq_getElem?_getD, List.getElem?_set_ne e, ← List.getD_eq_getElem?_getD]
  refine ⟨by rw [List.length_set]; exact hl, fun z hz => ?_, ?_, fun z hz => ?_, fun j hj => ?_⟩
  · rcases List.mem_append.1 hz with hz | hz
    · exact h.rng z hz
    · rw [List.mem_singleton] at hz; subst hz; exact hy
  · rw [List.nodup_append]
    refine ⟨h.nodup, by simp, fun a ha b hb2 e => ?_⟩
    rw [List.mem_singleton] at hb2
    subst hb2; subst e; exact hn ha
  · have hz' : 0 ≤ z ∧ z < c := by
      rcases List.mem_append.1 hz with hz | hz
      · exact h.rng z hz
      · rw [List.mem_singleton] at hz; subst hz; exact hy
    rw [hget _ (by omega)]
    split
    · exact hx2
    · rename_i hne
      rcases List.mem_append.1 hz with hz | hz
      · exact h.set z hz
      · rw [List.mem_singleton] at hz; subst hz; exact absurd rfl hne
  · rw [hget j hj]
    by_cases e : y.toNat = j
    · rw [if_pos e]
      have ej : (j : Int) = y := by omega
      refine .inr ⟨by rw [ej]; exact List.mem_append_right _ (List.mem_singleton.2 rfl), ?_⟩
      rcases hx with e1 | e1
      · exact .inl e1
      · refine .inr ⟨List.mem_append_left _ e1, ?_⟩
        rw [ej, List.idxOf_append, if_pos e1, List.idxOf_append, if_neg hn]
        have := List.idxOf_lt_length_of_mem e1
        omega
    · rw [if_neg e]
      rcases h.prec j hj with e1 | ⟨hm, e1⟩
      · exact .inl e1
      · refine .inr ⟨List.mem_append_left _ hm, ?_⟩
        rcases e1 with e1 | ⟨hm2, e1⟩
        · exact .inl e1
        · refine .inr ⟨List.mem_append_left _ hm2, ?_⟩
          rw [List.idxOf_append, if_pos hm2, List.idxOf_append, if_pos hm]; exact e1
structure BackOk (c : Nat) (back : List Int) : Prop where
  len : back.length = c
  rng : ∀ j, j < c → -2 ≤ back.getD j 0 ∧ back.getD j 0 < c
  rank : ∃ r : Nat → Nat, ∀ j, j < c → 0 ≤ back.getD j 0 → r (back.getD j 0).toNat < r j
theorem Srch.back {c : Nat} {back queue : List Int} (h : Srch c back queue) : BackOk c back := by
  refine ⟨h.len, fun j hj => ?_, fun j => queue.idxOf (j : Int), fun j hj h0 => ?_⟩
  · rcases h.prec j hj with e | ⟨-, e | ⟨e, -⟩⟩
    · omega
    · omega
    · have := h.rng _ e; omega
  · rcases h.prec j hj with e | ⟨-, e | ⟨-, e⟩⟩
    · omega
    · omega
    · show queue.idxOf (((back.getD j 0).toNat : Nat) : Int) < _
      rw [Int.toNat_of_nonneg h0]; exact e
def NxOk (c : Nat) (xs : List Int) : Prop := ∀ x ∈ xs, 0 ≤ x ∧ x < c
theorem NxOk.nil (c : Nat) : NxOk c [] := fun x hx => by cases hx
theorem NxOk.app {c : Nat} {xs : List Int} (h : NxOk c xs) {x : Int} (hx : 0 ≤ x ∧ x < c) : NxOk c (xs ++ [x]) := fun y hy => by
  rcases List.mem_append.1 hy with hy | hy
  · exact h y hy
  · rw [List.mem_singleton] at hy; subst hy; exact hx
theorem NxOk.at {c : Nat} {xs : List Int} (h : NxOk c xs) {k : Nat} (hk : k < xs.length) : 0 ≤ xs.getD k 0 ∧ xs.getD k 0 < c := h _ (zch hk)
def AbOk (c : Int) (ab : List Int) : Prop := (ab.length : Int) = c ∧ ∀ k, k < ab.length → -1 ≤ ab.getD k 0 ∧ ab.getD k 0 < c
theorem AbOk.start {c : Int} (hc : 1 ≤ c) : AbOk c (List.replicate c.toNat 0) := ⟨by rw [List.length_replicate]; omega, fun k hk => by rw [List.length_replicate] at hk; rw [getD_rep' hk]; omega⟩
theorem AbOk.set {c : Int} {ab : List Int} (h : AbOk c ab) {k : Nat} {x : Int} (hx : -1 ≤ x ∧ x < c) : AbOk c (ab.set k x) := by
  refine ⟨by rw [List.length_set]; exact h.1, fun j hj => ?_⟩
  rw [List.length_set] at hj
  by_cases e : k = j
  · subst e; rw [zcg hj]; exact hx
  · rw [List.getD_eq_getElem?_getD, List.getElem?_set_ne e, ← List.getD_eq_getElem?_getD]; exact h.2 j hj
structure LbOk (n : Nt) (i : Nat) (ls : List Int) : Prop where
  len : (ls.length : Int) = n.cnt
  at_ : ∀ k, k < ls.length → 0 ≤ ls.getD k 0 ∧ ls.getD k 0 ≤ k
theorem LbOk.start {n : Nt} (hc : 0 ≤ n.cnt) : LbOk n 0 (List.replicate n.cnt.toNat 0) := ⟨by rw [List.length_replicate]; omega, fun k hk => by rw [List.length_replicate] at hk; rw [getD_rep' hk]; omega⟩
theorem LbOk.set {n : Nt} {i j : Nat} {ls : List Int} (h : LbOk n i ls) {k : Nat} {x : Int} (hx : 0 ≤ x ∧ x ≤ k) : LbOk n j (ls.set k x) := by
  refine ⟨by rw [List.length_set]; exact h.len, fun m hm => ?_⟩
  rw [List.length_set] at hm
  by_cases e : k = m
  · subst e; rw [zcg hm]; exact hx
  · rw [List.getD_eq_getElem?_getD, List.getElem?_set_ne e, ← List.getD_eq_getElem?_getD]; exact h.at_ m hm
open Go.RowKit
theorem two_rng {xs : List Int} {k x : Int} (h : ∀ y ∈ xs, 0 ≤ y ∧ y < k) (hx : 0 ≤ x ∧ x < k) : ∀ y ∈ xs ++ [x], 0 ≤ y ∧ y < k := fun y hy => by
  rcases List.mem_append.1 hy with hy | hy
  · exact h y hy
  · rw [List.mem_singleton] at hy; subst hy; exact hx
theorem no_rng {k : Int} : ∀ y ∈ ([] : List Int), 0 ≤ y ∧ y < k := fun y hy => by cases hy
theorem Fan_ret (n : Nt) (k : Int) (w : World) (hr : RdsNt w n) (hn : NtOk n) (hk : 0 ≤ k ∧ k < n.cnt) :
   Calls Try.prog 104 #[.agg #[.int .i64 n.ins, n.sv, n.av, n.ov], .int .i64 k] w (Ret w (fun u_ p_ => ∃ xs : List Int, p_ = [rowE 3 1 u_ xs.length (xs.map (Value.int .i64))] ∧ xs.length ≤ 2 ∧ ∀ x ∈ xs, 0 ≤ x ∧ x < k)) := by
 have hi0 := hn.i0
 have hi1 := hn.i1
 have hs1 := hn.s1
 have ha1 := hn.a1
 have ho1 := hn.o1
 have hcnt : n.cnt = 1 + n.ins + n.ss.length + n.gs.length := rfl
 have hfst : n.fst = 1 + n.ins + n.ss.length := rfl
 refine zbf (N := 40) (args := [.agg #[.int .i64 n.ins, n.sv, n.av, n.ov], .int .i64 k]) Try.func104 rfl rfl (srQ ?_)
 refine zdt rfl (zct rfl rfl) ?_
 intro b1
 refine zbb 1 rfl (srQ ?_)
 refine zdu rfl (zcq (s := 1) rfl Try.underlying26 rfl) ?_
 intro g2
 refine zbb 1 rfl (zac (zac (reQ 1 rfl (hvQ rfl (zar (cs := [.int .i64 n.ins, n.sv, n.av, n.ov]) rfl rfl rfl rfl rfl (zam 1 rfl 0 rfl)) ?_))))
 refine zdm rfl (zal rfl rfl (fun w hm => zas (zbz n w (hr.below hm.bel) hn))) (zbh rfl rfl rfl rfl rfl rfl (fun h3 => ?_) (fun h3 => ?_))
 ·
  refine ntQ (zan rfl (zbc 2 rfl ?_))
  refine zav (zap ?_)
  exact zdc (post := [rowE 3 1 (.slice (some ⟨g2, 0, none⟩) 0 0) 0 ([])]) rfl rfl (slQ [0] rfl) ⟨[], rfl, by simp, no_rng⟩
 refine ntQ (zaq rfl (zcp (zac ?_)))
 have hgn := hn.an (k - n.fst).toNat (by omega)
 unfold LtOk at hgn
 refine zdo rfl 9 [0, 1, 2, 3, 4, 5, 6, 7, 8] (List.take 9 _) (List.drop 9 _) [[], [0], [], [], [3], [2, 4], [1, 5], [6], []] [13, 14, 15, 16, 17, 18, 19, 20, 6] (fun i_ vs_ v_ p_ => match i_ with | 0 => v_ = .pointer (some ⟨b1, 0 + 2, none⟩) ∧ p_ = [] | 1 => v_ = n.av ∧ p_ = [] | 2 => v_ = .int .i64 k ∧ p_ = [] | 3 => v_ = .agg #[.int .i64 n.ins, n.sv, n.av, n.ov] ∧ p_ = [] | 4 => v_ = .int .i64 n.fst ∧ p_ = [] | 5 => v_ = .int .i64 (k - n.fst) ∧ p_ = [] | 6 => v_ = elP n.av ((k - n.fst).toNat * 2) ∧ p_ = [] | 7 => v_ = .agg #[.int .i64 ((n.gs.getD ((k - n.fst).toNat) an0).a), .int .i64 ((n.gs.getD ((k - n.fst).toNat) an0).b)] ∧ p_ = [] | 8 => IsBox #[.int .i64 0, .int .i64 0] 124 v_ p_ | _ => True) (List.take_append_drop 9 _).symm (by kernel_rfl) (by kernel_rfl) rfl rfl ?_ ?_
 ·
  refine ⟨?_, ?_, ?_, ?_, ?_, ?_, ?_, ?_, ?_, trivial⟩
  ·
   intro vf pf hR
   exact ovQ rfl (zai [2] rfl) (zbd (fdQ 2 rfl rfl rfl))
  ·
   intro vf pf hR
   have e0 := hR 0 (by decide)
   exact olQ rfl (sk 13 (congrArg some e0.1) (zab _)) (zbd (zag rfl rfl rfl (zad 1 rfl rfl)))
  ·
   intro vf pf hR
   exact ovQ rfl (zai [1] rfl) (zbd (zaj rfl))
  ·
   intro vf pf hR
   exact olQ rfl (zai [2] rfl) (zbd (zar (cs := [.int .i64 n.ins, n.sv, n.av, n.ov]) rfl rfl rfl rfl rfl (zam 1 rfl 0 rfl)))
  ·
   intro vf pf hR
   have e3 := hR 3 (by decide)
   exact olQ rfl (sk 16 (congrArg some e3.1) (zab _)) (zal rfl rfl (fun w hm => zas (zbz n w (hr.below hm.bel) hn)))
  ·
   intro vf pf hR
   have e2 := hR 2 (by decide)
   have e4 := hR 4 (by decide)
   exact ovQ rfl (sk 15 (congrArg some e2.1) (sk 17 (congrArg some e4.1) (zab _))) (zbd (vsQ rfl rfl rfl))
  ·
   intro vf pf hR
   have e1 := hR 1 (by decide)
   have e5 := hR 5 (by decide)
   exact olQ rfl (sk 14 (congrArg some e1.1) (sk 18 (congrArg some e5.1) (zab _))) (zbd (riQ 2 rfl rfl rfl rfl (zaa hr.an)))
  ·
   intro vf pf hR
   have e6 := hR 6 (by decide)
   exact olQ rfl (sk 19 (congrArg some e6.1) (zab _)) (zbd (zcl (us := [.int .i64 ((n.gs.getD ((k - n.fst).toNat) an0).a), .int .i64 ((n.gs.getD ((k - n.fst).toNat) an0).b)]) rfl rfl rfl rfl (zaa hr.an) (by omega) rfl (zde anC 2 (fun _ => rfl) n.gs an0 (show (k - n.fst).toNat < _ by omega) rfl)))
  intro vf pf hR
  exact olQ rfl (zab _) (zbm (z := .agg #[.int .i64 0, .int .i64 0]) rfl rfl)
 intro vf pf hR
 have e7 := hR 7 (by decide)
 have e8 : IsBox #[.int .i64 0, .int .i64 0] 124 (vf 8) (pf 8) := hR 8 (by decide)
 obtain ⟨b4, vE8, pE8⟩ := e8
 have q0 := hR 0 (by decide)
 have q1 := hR 1 (by decide)
 have q2 := hR 2 (by decide)
 have q3 := hR 3 (by decide)
 have q4 := hR 4 (by decide)
 have q5 := hR 5 (by decide)
 have q6 := hR 6 (by decide)
 have q7 := hR 7 (by decide)
 refine zce (zbe [5, 4, 2, 1, 0] _ (sk 6 (congrArg some vE8) (sk 11 rfl (sk 20 (congrArg some e7.1) (zab _)))) rfl) (by simp only [pE8, vE8, q0.2, q1.2, q2.2, q3.2, q4.2, q5.2, q6.2, q7.2, fS] <;> rfl) ?_
 simp only [List.drop_succ_cons, List.drop_zero]
 refine zbr (cs' := #[.int .i64 ((n.gs.getD ((k - n.fst).toNat) an0).a), .int .i64 ((n.gs.getD ((k - n.fst).toNat) an0).b)]) (i := 0) (off := 0) (us := [.int .i64 ((n.gs.getD ((k - n.fst).toNat) an0).a), .int .i64 ((n.gs.getD ((k - n.fst).toNat) an0).b)]) rfl rfl rfl rfl rfl rfl rfl (zae rfl (zae rfl zbj)) rfl rfl rfl (ntQ (zfl (hvQ rfl (fdQ 0 rfl rfl rfl) (hvQ rfl (zag rfl rfl rfl (zad 0 rfl rfl)) ?_))))
 refine zfa rfl rfl rfl rfl rfl rfl (fun h5 => ?_) (fun h5 => ?_)
 ·
  refine ntQ (zan rfl (reQ 1 rfl (hvQ rfl (fdQ 0 rfl rfl rfl) (hvQ rfl (zag rfl rfl rfl (zad 0 rfl rfl)) ?_))))
  refine hvQ rfl (zep rfl rfl rfl (by refine ⟨?_, ?_, ?_⟩ <;> omega)) ?_
  refine zdu rfl (zau (z := .int .i64 0) (s := 1) (cs := ([((n.gs.getD ((k - n.fst).toNat) an0).a) / 2].map (Value.int .i64))) rfl Try.underlying26 rfl (by decide) rfl (by kernel_rfl) rfl) ?_
  intro g6
  refine zcf (i := 2) (z := .int .i64 0) (bytes := 8) (n' := ([((n.gs.getD ((k - n.fst).toNat) an0).a) / 2]).length) (xs' := (([((n.gs.getD ((k - n.fst).toNat) an0).a) / 2]).map (Value.int .i64))) rfl rfl rfl rfl Try.underlying26 (by kernel_rfl) rfl rfl rfl rfl (zah 0 rfl) (zbw _) (by first | omega | (simp; done) | (simp; omega)) (Nat.zero_add _) (List.nil_append _) (fun _ => rfl) ?_
  intro v7
  refine zbb 1 rfl (zfl (hvQ rfl (fdQ 1 rfl rfl rfl) (hvQ rfl (zag rfl rfl rfl (zad 1 rfl rfl)) ?_)))
  refine zfa rfl rfl rfl rfl rfl rfl (fun h8 => ?_) (fun h8 => ?_)
  ·
   refine ntQ (zan rfl (reQ 1 rfl (hvQ rfl (fdQ 1 rfl rfl rfl) (hvQ rfl (zag rfl rfl rfl (zad 1 rfl rfl)) ?_))))
   refine hvQ rfl (zep rfl rfl rfl (by refine ⟨?_, ?_, ?_⟩ <;> omega)) ?_
   refine zdu rfl (zau (z := .int .i64 0) (s := 1) (cs := ([((n.gs.getD ((k - n.fst).toNat) an0).b) / 2].map (Value.int .i64))) rfl Try.underlying26 rfl (by decide) rfl (by kernel_rfl) rfl) ?_
   intro g9
   refine zcf (i := 3) (z := .int .i64 0) (bytes := 8) rfl rfl rfl rfl Try.underlying26 (by kernel_rfl) rfl rfl rfl rfl (zah 0 rfl) (zbw _) (by first | omega | (simp; done) | (simp; omega)) (zbt ([((n.gs.getD ((k - n.fst).toNat) an0).a) / 2]) ([((n.gs.getD ((k - n.fst).toNat) an0).b) / 2])) (zcn ([((n.gs.getD ((k - n.fst).toNat) an0).a) / 2]) ([((n.gs.getD ((k - n.fst).toNat) an0).b) / 2])) (fun _ => rfl) ?_
   intro v10
   refine zbb 1 rfl (zbc 2 rfl ?_)
   exact zav (zdc (post := [rowE 3 1 v10 ((([((n.gs.getD ((k - n.fst).toNat) an0).a) / 2]) ++ ([((n.gs.getD ((k - n.fst).toNat) an0).b) / 2])).length) ((([((n.gs.getD ((k - n.fst).toNat) an0).a) / 2]) ++ ([((n.gs.getD ((k - n.fst).toNat) an0).b) / 2])).map (Value.int .i64))]) rfl rfl (slQ [3] rfl) ⟨([((n.gs.getD ((k - n.fst).toNat) an0).a) / 2]) ++ ([((n.gs.getD ((k - n.fst).toNat) an0).b) / 2]), rfl, by simp, (by have h9 := two_rng (two_rng (k := k) no_rng (x := ((n.gs.getD ((k - n.fst).toNat) an0).a) / 2) (by omega)) (x := ((n.gs.getD ((k - n.fst).toNat) an0).b) / 2) (by omega); simpa using h9)⟩)
  refine ntQ (zaq rfl (zcp (zbc 2 rfl ?_)))
  exact zav (zdc (post := [rowE 3 1 v7 (([((n.gs.getD ((k - n.fst).toNat) an0).a) / 2]).length) (([((n.gs.getD ((k - n.fst).toNat) an0).a) / 2]).map (Value.int .i64))]) rfl rfl (slQ [2] rfl) ⟨[((n.gs.getD ((k - n.fst).toNat) an0).a) / 2], rfl, by simp, (by have h9 := two_rng (k := k) no_rng (x := ((n.gs.getD ((k - n.fst).toNat) an0).a) / 2) (by omega); simpa using h9)⟩)
 refine ntQ (zaq rfl (zcp (zfl (hvQ rfl (fdQ 1 rfl rfl rfl) (hvQ rfl (zag rfl rfl rfl (zad 0 rfl rfl)) ?_)))))
 refine zfa rfl rfl rfl rfl rfl rfl (fun h11 => ?_) (fun h11 => ?_)
 ·
  refine ntQ (zan rfl (reQ 1 rfl (hvQ rfl (fdQ 1 rfl rfl rfl) (hvQ rfl (zag rfl rfl rfl (zad 0 rfl rfl)) ?_))))
  refine hvQ rfl (zep rfl rfl rfl (by refine ⟨?_, ?_, ?_⟩ <;> omega)) ?_
  refine zdu rfl (zau (z := .int .i64 0) (s := 1) (cs := ([((n.gs.getD ((k - n.fst).toNat) an0).b) / 2].map (Value.int .i64))) rfl Try.underlying26 rfl (by decide) rfl (by kernel_rfl) rfl) ?_
  intro g12
  refine zcf (i := 2) (z := .int .i64 0) (bytes := 8) (n' := ([((n.gs.getD ((k - n.fst).toNat) an0).b) / 2]).length) (xs' := (([((n.gs.getD ((k - n.fst).toNat) an0).b) / 2]).map (Value.int .i64))) rfl rfl rfl rfl Try.underlying26 (by kernel_rfl) rfl rfl rfl rfl (zah 0 rfl) (zbw _) (by first | omega | (simp; done) | (simp; omega)) (Nat.zero_add _) (List.nil_append _) (fun _ => rfl) ?_
  intro v13
  refine zbb 1 rfl (zbc 2 rfl ?_)
  exact zav (zdc (post := [rowE 3 1 v13 (([((n.gs.getD ((k - n.fst).toNat) an0).b) / 2]).length) (([((n.gs.getD ((k - n.fst).toNat) an0).b) / 2]).map (Value.int .i64))]) rfl rfl (slQ [2] rfl) ⟨[((n.gs.getD ((k - n.fst).toNat) an0).b) / 2], rfl, by simp, (by have h9 := two_rng (k := k) no_rng (x := ((n.gs.getD ((k - n.fst).toNat) an0).b) / 2) (by omega); simpa using h9)⟩)
 refine ntQ (zaq rfl (zcp (zbc 2 rfl ?_)))
 exact zav (zdc (post := [rowE 3 1 (.slice (some ⟨g2, 0, none⟩) 0 0) 0 ([])]) rfl rfl (slQ [1] rfl) ⟨[], rfl, by simp, no_rng⟩)
theorem Search_ret (n : Nt) (us ds : List Bl) (ab : List Int) (uv dv av : Value) (w : World) (hr : RdsNt w n) (hn : NtOk n) (hu : RdsW w uv 1 us.length (us.flatMap blC)) (hul : (us.length : Int) = n.cnt) (hd : RdsW w dv 1 ds.length (ds.flatMap blC)) (hdl : (ds.length : Int) = n.cnt) (ha : RdsW w av 1 ab.length (ab.map (Value.int .i64))) (hab : AbOk n.cnt ab) :
   Calls Try.prog 101 #[.agg #[.int .i64 n.ins, n.sv, n.av, n.ov], uv, dv, av] w (Ret w (fun u_ p_ => ∃ (bs : List Int) (v1 : Value) (at_ : Int), u_ = .tuple #[v1, .int .i64 at_] ∧ p_ = [rowE 3 1 v1 bs.length (bs.map (Value.int .i64))] ∧ BackOk (2 * n.cnt.toNat) bs ∧ -1 ≤ at_ ∧ at_ < 2 * n.cnt)) := by
 have hi0 := hn.i0
 have hi1 := hn.i1
 have hs1 := hn.s1
 have ha1 := hn.a1
 have ho1 := hn.o1
 have hcnt : n.cnt = 1 + n.ins + n.ss.length + n.gs.length := rfl
 have hfst : n.fst = 1 + n.ins + n.ss.length := rfl
 have hab1 := hab.1
 refine zbf (N := 199) (args := [.agg #[.int .i64 n.ins, n.sv, n.av, n.ov], uv, dv, av]) Try.func101 rfl rfl (srQ ?_)
 refine zdt rfl (zct rfl rfl) ?_
 intro b1
 refine zbb 2 rfl (srQ ?_)
 refine zdu rfl (zcq (s := 1) rfl Try.underlying26 rfl) ?_
 intro g2
 refine zbb 1 rfl (srQ ?_)
 refine zdu rfl (zcq (s := 1) rfl Try.underlying26 rfl) ?_
 intro g3
 refine zbb 1 rfl (zac (zbc 1 rfl (zaw ?_)))
 refine lkQ2 (α := Nat) (β := Value) [0, 1, 2, 3, 4, 8, 9, 11] rfl (fun k bv => [rowE 3 1 (.slice (some ⟨g3, 0, none⟩) 0 0) 0 ([]), rowE 3 1 bv ((List.replicate k (-2 : Int)).length) ((List.replicate k (-2 : Int)).map (Value.int .i64)), boxE b1 #[.int .i64 n.ins, n.sv, n.av, n.ov] 101]) (fun k bv => [(10, bv), (12, .int .i64 (k : Int))]) (fun k bv => k ≤ (2 * n.cnt.toNat)) (fun k bv => (2 * n.cnt.toNat) - k) 0 _ (Nat.zero_le _) (saQ rfl) (pfQ rfl) ?_
 intro k bv hi4
 have hk := hi4
 have hrk : (List.replicate k (-2 : Int)).length = k := List.length_replicate
 refine zac (zac (reQ 1 rfl (hvQ rfl (zar (cs := [.int .i64 n.ins, n.sv, n.av, n.ov]) rfl rfl rfl rfl rfl (zam 2 rfl 0 rfl)) ?_)))
 refine zdm rfl (zal rfl rfl (fun w hm => zas (zbs n w (hr.below hm.bel) hn))) (hvQ rfl (zfe rfl rfl rfl (by constructor <;> omega)) ?_)
 refine zbh rfl rfl rfl rfl rfl rfl (fun h5 => ?_) (fun h5 => ?_)
 ·
  refine ntQ (zan rfl (zcp (sbQ (reQ 1 rfl ?_))))
  refine zdu rfl (zau (z := .int .i64 0) (s := 1) (cs := ([-2].map (Value.int .i64))) rfl Try.underlying26 rfl (by decide) rfl (by kernel_rfl) rfl) ?_
  intro g6
  refine zcf (i := 2) (z := .int .i64 0) (bytes := 8) rfl rfl rfl rfl Try.underlying26 (by kernel_rfl) rfl rfl rfl rfl (zah 0 rfl) (zbw _) (by first | omega | (simp; done) | (simp; omega)) (zbt (List.replicate k (-2 : Int)) ([-2])) (zcn (List.replicate k (-2 : Int)) ([-2])) (fun _ => rfl) ?_
  intro v7
  refine enQ 1 rfl (zcv (reQ 1 rfl (hvQ rfl (vaQ rfl rfl rfl) (enQ 1 rfl ?_))))
  exact hq_eqL (l' := [rowE 3 1 (.slice (some ⟨g6, 0, none⟩) 1 1) 1 ([-2].map (Value.int .i64)), rowE 3 1 (.slice (some ⟨g3, 0, none⟩) 0 0) 0 ([]), rowE 3 1 v7 ((List.replicate (k + 1) (-2 : Int)).length) ((List.replicate (k + 1) (-2 : Int)).map (Value.int .i64)), boxE b1 #[.int .i64 n.ins, n.sv, n.av, n.ov] 101]) (by rw [List.replicate_succ']) (zbv (k + 1) v7 (by omega) (by omega) (saQ rfl) (slQ [1, 0, 0] rfl))
 refine ntQ (zaq rfl ?_)
 refine zaz (zdp ?_)
 refine zaf (zax (zac (zbc 1 rfl (zaw ?_))))
 have hkf : k = (2 * n.cnt.toNat) := by omega
 subst hkf
 refine lkQ4 (α := Nat) (β := List Int) (γ := List Int) (δ := Value) [0, 1, 2, 3, 4, 8, 9, 10, 28] rfl (fun k2 bs qs qv => [rowE 3 1 qv qs.length (qs.map (Value.int .i64)), rowE 3 1 bv bs.length (bs.map (Value.int .i64)), boxE b1 #[.int .i64 n.ins, n.sv, n.av, n.ov] 101]) (fun k2 bs qs qv => [(11, qv), (13, .int .i64 (k2 : Int))]) (fun k2 bs qs qv => (k2 : Int) ≤ n.cnt ∧ Srch (2 * n.cnt.toNat) bs qs) (fun k2 bs qs qv => n.cnt.toNat - k2) 0 _ [] _ ⟨by omega, Srch.start _⟩ (saQ rfl) (pfQ rfl) ?_
 intro k2 bs qs qv hi8
 obtain ⟨hk2, hsr⟩ := hi8
 have hbl := hsr.len
 have hql := hsr.qlen
 refine zac (zac (reQ 1 rfl (hvQ rfl (zar (cs := [.int .i64 n.ins, n.sv, n.av, n.ov]) rfl rfl rfl rfl rfl (zam 2 rfl 0 rfl)) ?_)))
 refine zdm rfl (zal rfl rfl (fun w hm => zas (zbs n w (hr.below hm.bel) hn))) (zbh rfl rfl rfl rfl rfl rfl (fun h9 => ?_) (fun h9 => ?_))
 ·
  refine ntQ (zan rfl (zcp (sbQ (srQ (hvQ rfl (zar (cs := [.int .i64 n.ins, n.sv, n.av, n.ov]) rfl rfl rfl rfl rfl (zam 2 rfl 0 rfl)) (zao 1 rfl ?_))))))
  refine hl_q rfl rfl rfl (zal rfl rfl (fun w hm => Fan_ret n (k2 : Int) w (hr.below hm.bel) hn (by omega))) ?_
  intro v10 p11 hR12
  obtain ⟨fs, rfl, hfl, hfr⟩ := hR12
  refine zbb 1 rfl (zbc 1 rfl (zaw ?_))
  refine lkQ4 (α := Nat) (β := List Int) (γ := List Int) (δ := Value) [0, 1, 2, 3, 4, 8, 9, 10, 13, 14, 28, 37] rfl (fun i bs2 qs2 qv2 => [rowE 3 1 v10 fs.length (fs.map (Value.int .i64)), rowE 3 1 qv2 qs2.length (qs2.map (Value.int .i64)), rowE 3 1 bv bs2.length (bs2.map (Value.int .i64)), boxE b1 #[.int .i64 n.ins, n.sv, n.av, n.ov] 101]) (fun i bs2 qs2 qv2 => [(11, qv2), (15, .int .i64 (i : Int))]) (fun i bs2 qs2 qv2 => i ≤ fs.length ∧ Srch (2 * n.cnt.toNat) bs2 qs2) (fun i bs2 qs2 qv2 => fs.length - i) 0 bs qs _ ⟨Nat.zero_le _, hsr⟩ (saQ rfl) (pfQ rfl) ?_
  intro i bs2 qs2 qv2 hi13
  obtain ⟨hi, hsr2⟩ := hi13
  have hbl2 := hsr2.len
  have hql2 := hsr2.qlen
  refine zac (zac (reQ 2 rfl (hvQ rfl (lnQ rfl rfl rfl (zah 0 rfl)) ?_)))
  refine zbh rfl rfl rfl rfl rfl rfl (fun h14 => ?_) (fun h14 => ?_)
  ·
   refine zao 3 rfl (hvQ rfl (riQ 1 rfl rfl rfl rfl (zaa hu)) ?_)
   refine hvQ rfl (zat (u := .bool ((us.getD k2 bl0).b)) rfl rfl rfl (zaa hu) (zbn blC (fun r => .bool r.b) (fun _ => rfl) us bl0 (show k2 < _ by omega))) (zbl (fun h15 => ?_) (fun h15 => ?_))
   ·
    refine zbb 1 rfl (zan rfl (zcp (sbQ (srQ ?_))))
    have hfi := hfr _ (zch (d := (0 : Int)) (show i < fs.length by omega))
    refine zao 3 rfl (hvQ rfl (riQ 1 rfl rfl rfl rfl (zah 0 rfl)) (hvQ rfl (liQ rfl rfl rfl (zah 0 rfl)) (hvQ rfl (riQ 1 rfl rfl rfl rfl (zaa hu)) ?_)))
    refine hvQ rfl (zat (u := .bool ((us.getD ((fs.getD i 0).toNat) bl0).b)) rfl rfl rfl (zaa hu) (zbn blC (fun r => .bool r.b) (fun _ => rfl) us bl0 (show (fs.getD i 0).toNat < _ by omega))) (zbl (fun h16 => ?_) (fun h16 => ?_))
    ·
     refine zbb 12 rfl (fsQ rfl (zcm ?_))
     refine zax (reQ 1 rfl (hvQ rfl (vaQ rfl rfl rfl) (enQ 1 rfl ?_)))
     exact zca (i + 1) bs2 qs2 qv2 ⟨by omega, hsr2⟩ (by omega) (saQ rfl) (pfQ rfl)
    refine zao 5 rfl (hvQ rfl (riQ 1 rfl rfl rfl rfl (zah 0 rfl)) (hvQ rfl (liQ rfl rfl rfl (zah 0 rfl)) (hvQ rfl (zfe rfl rfl rfl (by constructor <;> omega)) (hvQ rfl (riQ 1 rfl rfl rfl rfl (zah 2 rfl)) (hvQ rfl (lzQ rfl rfl rfl (zah 2 rfl)) ?_)))))
    refine zcu rfl rfl rfl rfl rfl rfl (fun h17 => ?_) (fun h17 => ?_)
    ·
     refine zbb 1 rfl (zan rfl (zac (reQ 3 rfl (hvQ rfl (riQ 1 rfl rfl rfl rfl (zah 0 rfl)) (hvQ rfl (liQ rfl rfl rfl (zah 0 rfl)) (hvQ rfl (zfe rfl rfl rfl (by constructor <;> omega)) (hvQ rfl (riQ 1 rfl rfl rfl rfl (zah 2 rfl)) ?_)))))))
     refine zcw (i := 2) (n' := (bs2.set ((2 * (fs.getD i 0)).toNat) (-1)).length) (xs' := ((bs2.set ((2 * (fs.getD i 0)).toNat) (-1)).map (Value.int .i64))) rfl rfl rfl rfl rfl rfl rfl rfl (by first | omega | (simp only [List.length_set]; omega)) List.length_set.symm (zdb _ _ _) rfl (ntQ (reQ 3 rfl (hvQ rfl (riQ 1 rfl rfl rfl rfl (zah 0 rfl)) (hvQ rfl (liQ rfl rfl rfl (zah 0 rfl)) (hvQ rfl (zfe rfl rfl rfl (by constructor <;> omega)) ?_)))))
     refine zdu rfl (zau (z := .int .i64 0) (s := 1) (cs := ([2 * (fs.getD i 0)].map (Value.int .i64))) rfl Try.underlying26 rfl (by decide) rfl (by kernel_rfl) rfl) ?_
     intro g18
     refine zcf (i := 2) (z := .int .i64 0) (bytes := 8) rfl rfl rfl rfl Try.underlying26 (by kernel_rfl) rfl rfl rfl rfl (zah 0 rfl) (zbw _) (by first | omega | (simp; done) | (simp; omega)) (zbt qs2 ([2 * (fs.getD i 0)])) (zcn qs2 ([2 * (fs.getD i 0)])) (fun _ => rfl) ?_
     intro v19
     refine enQ 1 rfl (zcv (reQ 1 rfl (hvQ rfl (vaQ rfl rfl rfl) (enQ 1 rfl ?_))))
     exact zca (i + 1) (bs2.set ((2 * (fs.getD i 0)).toNat) (-1)) (qs2 ++ ([2 * (fs.getD i 0)])) v19 ⟨by omega, (hsr2.put (by omega) (by assumption) (.inl rfl))⟩ (by omega) (saQ rfl) (slQ [1, 0, 0, 0] rfl)
    refine zbb 1 rfl (fsQ rfl (zcv (reQ 1 rfl (hvQ rfl (vaQ rfl rfl rfl) (enQ 1 rfl ?_)))))
    exact zca (i + 1) bs2 qs2 qv2 ⟨by omega, hsr2⟩ (by omega) (saQ rfl) (pfQ rfl)
   refine zbb 1 rfl (zaq rfl ?_)
   refine zaz (zdp ?_)
   refine zaf (zcv (reQ 1 rfl (hvQ rfl (vaQ rfl rfl rfl) (enQ 1 rfl ?_))))
   exact zca (k2 + 1) bs2 qs2 qv2 ⟨by omega, hsr2⟩ (by omega) (saQ rfl) (slQ [1, 0, 0] rfl)
  refine zbb 6 rfl (zaq rfl ?_)
  refine zaz (zdp ?_)
  refine zaf (zcv (reQ 1 rfl (hvQ rfl (vaQ rfl rfl rfl) (enQ 1 rfl ?_))))
  exact zca (k2 + 1) bs2 qs2 qv2 ⟨by omega, hsr2⟩ (by omega) (saQ rfl) (slQ [1, 0, 0] rfl)
 refine ntQ (zaq rfl ?_)
 refine zaz (zdp ?_)
 refine zaf (zax (zac (zbc 1 rfl (zaw ?_))))
 refine lkQ4 (α := Nat) (β := List Int) (γ := List Int) (δ := Value) [0, 1, 2, 3, 4, 8, 9, 10, 28, 37] rfl (fun q bs3 qs3 qv3 => [rowE 3 1 qv3 qs3.length (qs3.map (Value.int .i64)), rowE 3 1 bv bs3.length (bs3.map (Value.int .i64)), boxE b1 #[.int .i64 n.ins, n.sv, n.av, n.ov] 101]) (fun q bs3 qs3 qv3 => [(11, qv3), (16, .int .i64 (q : Int))]) (fun q bs3 qs3 qv3 => q ≤ qs3.length ∧ Srch (2 * n.cnt.toNat) bs3 qs3) (fun q bs3 qs3 qv3 => (2 * n.cnt.toNat) - q) 0 bs qs _ ⟨Nat.zero_le _, hsr⟩ (saQ rfl) (pfQ rfl) ?_
 intro q bs3 qs3 qv3 hi20
 obtain ⟨hq, hsr3⟩ := hi20
 have hbl3 := hsr3.len
 have hql3 := hsr3.qlen
 refine zac (zac (reQ 2 rfl (hvQ rfl (lnQ rfl rfl rfl (zah 0 rfl)) ?_)))
 refine zbh rfl rfl rfl rfl rfl rfl (fun h21 => ?_) (fun h21 => ?_)
 ·
  refine ntQ (zan rfl (zcp (sbQ (zac (reQ 2 rfl (hvQ rfl (riQ 1 rfl rfl rfl rfl (zah 0 rfl)) ?_))))))
  have hq3 := hsr3.at (q := q) (by omega)
  refine hvQ rfl (liQ rfl rfl rfl (zah 0 rfl)) (hvQ rfl (zep rfl rfl rfl (by refine ⟨?_, ?_, ?_⟩ <;> omega)) ?_)
  refine zbb 1 rfl (srQ ?_)
  refine zdu rfl (zcq (s := 1) rfl Try.underlying26 rfl) ?_
  intro g22
  refine zbb 1 rfl ?_
  refine hc_meet2 (α := Value) (β := List Int) (fun nv ns => [rowE 3 1 nv ns.length (ns.map (Value.int .i64)), rowE 3 1 qv3 qs3.length (qs3.map (Value.int .i64)), rowE 3 1 bv bs3.length (bs3.map (Value.int .i64)), boxE b1 #[.int .i64 n.ins, n.sv, n.av, n.ov] 101]) (fun nv ns => [(0, .agg #[.int .i64 n.ins, n.sv, n.av, n.ov]), (1, uv), (2, dv), (3, av), (4, .pointer (some ⟨b1, 0, none⟩)), (8, .slice none 0 0), (9, .int .i64 0), (10, bv), (11, qv3), (16, .int .i64 (q : Int)), (17, .int .i64 ((qs3.getD q 0) / 2)), (18, nv), (28, .bool false), (37, .bool false), (92, .bool true)]) (fun nv ns => NxOk (2 * n.cnt.toNat) ns ∧ ns.length ≤ 3) ?_ ?_
  ·
   refine zac (reQ 2 rfl (hvQ rfl (riQ 1 rfl rfl rfl rfl (zah 1 rfl)) (hvQ rfl (liQ rfl rfl rfl (zah 1 rfl)) (hvQ rfl (rv_rem rfl rfl rfl (by constructor <;> omega)) ?_))))
   refine zcu rfl rfl rfl rfl rfl rfl (fun h23 => ?_) (fun h23 => ?_)
   ·
    refine ntQ (zan rfl (zac (reQ 2 rfl (hvQ rfl (riQ 1 rfl rfl rfl rfl (zaa hd)) ?_))))
    refine hvQ rfl (zat (u := .bool ((ds.getD (((qs3.getD q 0) / 2).toNat) bl0).b)) rfl rfl rfl (zaa hd) (zbn blC (fun r => .bool r.b) (fun _ => rfl) ds bl0 (show ((qs3.getD q 0) / 2).toNat < _ by omega))) (zbl (fun h24 => ?_) (fun h24 => ?_))
    ·
     refine zbb 1 rfl (zaq rfl (srQ ?_))
     have habk := hab.2 ((qs3.getD q 0) / 2).toNat (by omega)
     refine zao 2 rfl (hvQ rfl (riQ 1 rfl rfl rfl rfl (zaa ha)) (hvQ rfl (lzQ rfl rfl rfl (zaa ha)) ?_))
     refine zfh rfl rfl rfl rfl rfl rfl (fun h25 => ?_) (fun h25 => ?_)
     ·
      refine ntQ (zan rfl (reQ 3 rfl (hvQ rfl (riQ 1 rfl rfl rfl rfl (zaa ha)) (hvQ rfl (lzQ rfl rfl rfl (zaa ha)) (hvQ rfl (zfe rfl rfl rfl (by constructor <;> omega)) (hvQ rfl (vaQ rfl rfl rfl) ?_))))))
      refine zdu rfl (zau (z := .int .i64 0) (s := 1) (cs := ([(2 * (ab.getD (((qs3.getD q 0) / 2).toNat) 0)) + 1].map (Value.int .i64))) rfl Try.underlying26 rfl (by decide) rfl (by kernel_rfl) rfl) ?_
      intro g26
      refine zcf (i := 1) (z := .int .i64 0) (bytes := 8) (n' := ([(2 * (ab.getD (((qs3.getD q 0) / 2).toNat) 0)) + 1]).length) (xs' := (([(2 * (ab.getD (((qs3.getD q 0) / 2).toNat) 0)) + 1]).map (Value.int .i64))) rfl rfl rfl rfl Try.underlying26 (by kernel_rfl) rfl rfl rfl rfl (zah 0 rfl) (zbw _) (by first | omega | (simp; done) | (simp; omega)) (Nat.zero_add _) (List.nil_append _) (fun _ => rfl) ?_
      intro v27
      refine enQ 1 rfl ?_
      exact zec v27 ([(2 * (ab.getD (((qs3.getD q 0) / 2).toNat) 0)) + 1]) ⟨(by have h9 := (NxOk.nil (2 * n.cnt.toNat)).app (x := (2 * (ab.getD (((qs3.getD q 0) / 2).toNat) 0)) + 1) (by omega); simpa using h9), (by simp)⟩ (saQ rfl) (slQ [1, 0, 0, 0] rfl)
     refine ntQ (fsQ rfl ?_)
     exact zec (.slice (some ⟨g22, 0, none⟩) 0 0) ([]) ⟨NxOk.nil _, (by simp)⟩ (saQ rfl) (pfQ rfl)
    refine zbb 1 rfl (zan rfl (reQ 2 rfl (hvQ rfl (zfe rfl rfl rfl (by constructor <;> omega)) (hvQ rfl (vaQ rfl rfl rfl) ?_))))
    refine zdu rfl (zau (z := .int .i64 0) (s := 1) (cs := ([(2 * ((qs3.getD q 0) / 2)) + 1].map (Value.int .i64))) rfl Try.underlying26 rfl (by decide) rfl (by kernel_rfl) rfl) ?_
    intro g28
    refine zcf (i := 1) (z := .int .i64 0) (bytes := 8) (n' := ([(2 * ((qs3.getD q 0) / 2)) + 1]).length) (xs' := (([(2 * ((qs3.getD q 0) / 2)) + 1]).map (Value.int .i64))) rfl rfl rfl rfl Try.underlying26 (by kernel_rfl) rfl rfl rfl rfl (zah 0 rfl) (zbw _) (by first | omega | (simp; done) | (simp; omega)) (Nat.zero_add _) (List.nil_append _) (fun _ => rfl) ?_
    intro v29
    refine enQ 1 rfl ?_
    exact zec v29 ([(2 * ((qs3.getD q 0) / 2)) + 1]) ⟨(by have h9 := (NxOk.nil (2 * n.cnt.toNat)).app (x := (2 * ((qs3.getD q 0) / 2)) + 1) (by omega); simpa using h9), (by simp)⟩ (saQ rfl) (slQ [1, 0, 0, 0] rfl)
   refine ntQ (zaq rfl (zac (zac (reQ 1 rfl (hvQ rfl (zar (cs := [.int .i64 n.ins, n.sv, n.av, n.ov]) rfl rfl rfl rfl rfl (zam 3 rfl 0 rfl)) ?_)))))
   refine zdm rfl (zal rfl rfl (fun w hm => zas (zbz n w (hr.below hm.bel) hn))) (zbh rfl rfl rfl rfl rfl rfl (fun h30 => ?_) (fun h30 => ?_))
   ·
    refine ntQ (zan rfl (zac (hc_keep _ [135, 106, 92, 37, 28, 18, 17, 16, 11, 10, 9, 4, 3, 2, 1, 0] rfl ?_)))
    refine zbk 6 [[], [], [], [1, 2], [3], [0]] [136, 137, 138, 139, 140, 8] [bv, qv3, .int .i64 (q : Int), elP qv3 (((q : Int)).toNat * 1), .int .i64 (qs3.getD q 0), bv] (by kernel_rfl) rfl ?_ ?_
    ·
     exact ⟨iaQ rfl (zaj rfl) rfl, iaQ rfl (zaj rfl) rfl, iaQ rfl (zaj rfl) rfl, iaQ rfl (riQ 1 rfl rfl rfl rfl (zah 1 rfl)) rfl, iaQ rfl (liQ rfl rfl rfl (zah 1 rfl)) rfl, iaQ rfl (zaj rfl) rfl, trivial⟩
    simp only [List.drop_succ_cons, List.drop_zero]
    refine zbb 1 rfl ?_
    refine zav (zfs ?_)
    refine zak (zfs ?_)
    refine zak (zap ?_)
    exact zdn (rs := [.tmp 8, .tmp 9]) (vs := [bv, .int .i64 (qs3.getD q 0)]) (post := [rowE 3 1 bv bs3.length (bs3.map (Value.int .i64))]) rfl ⟨rfl, rfl, trivial⟩ rfl (slQ [2] rfl) ⟨bs3, _, _, rfl, rfl, hsr3.back, by omega, by omega⟩
   refine ntQ (zaq rfl (zcp (srQ (hvQ rfl (zar (cs := [.int .i64 n.ins, n.sv, n.av, n.ov]) rfl rfl rfl rfl rfl (zam 3 rfl 0 rfl)) (zao 1 rfl ?_)))))
   refine hl_q rfl rfl rfl (zal rfl rfl (fun w hm => Fan_ret n ((qs3.getD q 0) / 2) w (hr.below hm.bel) hn (by omega))) ?_
   intro v31 p32 hR33
   obtain ⟨fs, rfl, hfl, hfr⟩ := hR33
   refine zbb 1 rfl (zac (zbc 1 rfl (zaw ?_)))
   refine lkQ3 (α := Nat) (β := Value) (γ := List Int) [0, 1, 2, 3, 4, 8, 9, 10, 11, 16, 17, 19, 28, 37, 92, 106, 135] rfl (fun i5 nv ns => [rowE 3 1 v31 fs.length (fs.map (Value.int .i64)), rowE 3 1 nv ns.length (ns.map (Value.int .i64)), rowE 3 1 qv3 qs3.length (qs3.map (Value.int .i64)), rowE 3 1 bv bs3.length (bs3.map (Value.int .i64)), boxE b1 #[.int .i64 n.ins, n.sv, n.av, n.ov] 101]) (fun i5 nv ns => [(18, nv), (20, .int .i64 (i5 : Int))]) (fun i5 nv ns => i5 ≤ fs.length ∧ NxOk (2 * n.cnt.toNat) ns ∧ ns.length ≤ i5) (fun i5 nv ns => fs.length - i5) 0 _ [] ⟨Nat.zero_le _, NxOk.nil _, by simp⟩ (saQ rfl) (pfQ rfl) ?_
   intro i5 nv ns hi34
   obtain ⟨hi5, hnx, hnl⟩ := hi34
   refine zac (zac (reQ 2 rfl (hvQ rfl (lnQ rfl rfl rfl (zah 0 rfl)) ?_)))
   refine zbh rfl rfl rfl rfl rfl rfl (fun h35 => ?_) (fun h35 => ?_)
   ·
    refine ntQ (zan rfl (zcp (sbQ (zay ?_))))
    have hfi := hfr _ (zch (d := (0 : Int)) (show i5 < fs.length by omega))
    refine zao 3 rfl (hvQ rfl (riQ 1 rfl rfl rfl rfl (zah 0 rfl)) (hvQ rfl (liQ rfl rfl rfl (zah 0 rfl)) (hvQ rfl (zfe rfl rfl rfl (by constructor <;> omega)) ?_)))
    refine zdu rfl (zau (z := .int .i64 0) (s := 1) (cs := ([2 * (fs.getD i5 0)].map (Value.int .i64))) rfl Try.underlying26 rfl (by decide) rfl (by kernel_rfl) rfl) ?_
    intro g36
    refine zcf (i := 2) (z := .int .i64 0) (bytes := 8) rfl rfl rfl rfl Try.underlying26 (by kernel_rfl) rfl rfl rfl rfl (zah 0 rfl) (zbw _) (by first | omega | (simp; done) | (simp; omega)) (zbt ns ([2 * (fs.getD i5 0)])) (zcn ns ([2 * (fs.getD i5 0)])) (fun _ => rfl) ?_
    intro v37
    refine enQ 1 rfl (zcv (reQ 1 rfl (hvQ rfl (vaQ rfl rfl rfl) (enQ 1 rfl ?_))))
    exact zbi (i5 + 1) v37 (ns ++ ([2 * (fs.getD i5 0)])) ⟨by omega, hnx.app (by omega), by rw [List.length_append, List.length_singleton]; omega⟩ (by omega) (saQ rfl) (slQ [1, 0, 0, 0, 0] rfl)
   refine ntQ (zaq rfl ?_)
   refine zaz (zdp ?_)
   refine zaf (zax (zac (reQ 2 rfl (hvQ rfl (riQ 1 rfl rfl rfl rfl (zaa hd)) ?_))))
   refine hvQ rfl (zat (u := .bool ((ds.getD (((qs3.getD q 0) / 2).toNat) bl0).b)) rfl rfl rfl (zaa hd) (zbn blC (fun r => .bool r.b) (fun _ => rfl) ds bl0 (show ((qs3.getD q 0) / 2).toNat < _ by omega))) (zbl (fun h38 => ?_) (fun h38 => ?_))
   ·
    refine ntQ (zan rfl (reQ 2 rfl (hvQ rfl (zfe rfl rfl rfl (by constructor <;> omega)) ?_)))
    refine zdu rfl (zau (z := .int .i64 0) (s := 1) (cs := ([2 * ((qs3.getD q 0) / 2)].map (Value.int .i64))) rfl Try.underlying26 rfl (by decide) rfl (by kernel_rfl) rfl) ?_
    intro g39
    refine zcf (i := 2) (z := .int .i64 0) (bytes := 8) rfl rfl rfl rfl Try.underlying26 (by kernel_rfl) rfl rfl rfl rfl (zah 0 rfl) (zbw _) (by first | omega | (simp; done) | (simp; omega)) (zbt ns ([2 * ((qs3.getD q 0) / 2)])) (zcn ns ([2 * ((qs3.getD q 0) / 2)])) (fun _ => rfl) ?_
    intro v40
    refine enQ 1 rfl ?_
    exact zec v40 (ns ++ ([2 * ((qs3.getD q 0) / 2)])) ⟨hnx.app (by omega), (by rw [List.length_append, List.length_singleton]; omega)⟩ (saQ rfl) (slQ [2, 0, 0, 0] rfl)
   refine ntQ (fsQ rfl ?_)
   exact zec nv ns ⟨hnx, (by omega)⟩ (saQ rfl) (slQ [1, 0, 0, 0] rfl)
  intro nv ns hm41
  obtain ⟨hnx, hnl⟩ := hm41
  refine zbc 1 rfl (zaw ?_)
  refine lkQ4 (α := Nat) (β := List Int) (γ := List Int) (δ := Value) [0, 1, 2, 3, 4, 8, 9, 10, 16, 17, 18, 28, 37, 92] rfl (fun i6 bs4 qs4 qv4 => [rowE 3 1 nv ns.length (ns.map (Value.int .i64)), rowE 3 1 qv4 qs4.length (qs4.map (Value.int .i64)), rowE 3 1 bv bs4.length (bs4.map (Value.int .i64)), boxE b1 #[.int .i64 n.ins, n.sv, n.av, n.ov] 101]) (fun i6 bs4 qs4 qv4 => [(11, qv4), (21, .int .i64 (i6 : Int))]) (fun i6 bs4 qs4 qv4 => i6 ≤ ns.length ∧ Srch (2 * n.cnt.toNat) bs4 qs4 ∧ q < qs4.length ∧ qs4.getD q 0 = (qs3.getD q 0)) (fun i6 bs4 qs4 qv4 => ns.length - i6) 0 bs3 qs3 _ ⟨Nat.zero_le _, hsr3, by omega, rfl⟩ (saQ rfl) (pfQ rfl) ?_
  intro i6 bs4 qs4 qv4 hi42
  obtain ⟨hi6, hsr4, hq4, hqe⟩ := hi42
  have hbl4 := hsr4.len
  have hql4 := hsr4.qlen
  have hqm : qs4.getD q 0 ∈ qs4 := zch hq4
  refine zac (zac (reQ 2 rfl (hvQ rfl (lnQ rfl rfl rfl (zah 0 rfl)) ?_)))
  refine zbh rfl rfl rfl rfl rfl rfl (fun h43 => ?_) (fun h43 => ?_)
  ·
   refine ntQ (zan rfl (zcp (sbQ (srQ ?_))))
   have hni := hnx.at (k := i6) (by omega)
   refine zao 3 rfl (hvQ rfl (riQ 1 rfl rfl rfl rfl (zah 0 rfl)) (hvQ rfl (liQ rfl rfl rfl (zah 0 rfl)) (hvQ rfl (riQ 1 rfl rfl rfl rfl (zah 2 rfl)) (hvQ rfl (lzQ rfl rfl rfl (zah 2 rfl)) ?_))))
   refine zcu rfl rfl rfl rfl rfl rfl (fun h44 => ?_) (fun h44 => ?_)
   ·
    refine ntQ (zan rfl (zac ?_))
    refine zbk 10 [[], [], [], [1, 2], [3], [], [], [5, 6], [7], [0, 4]] [181, 182, 183, 184, 185, 186, 187, 188, 189, 190] [bv, nv, .int .i64 (i6 : Int), elP nv (((i6 : Int)).toNat * 1), .int .i64 (ns.getD i6 0), qv4, .int .i64 (q : Int), elP qv4 (((q : Int)).toNat * 1), .int .i64 (qs4.getD q 0), elP bv ((ns.getD i6 0).toNat * 1)] (by kernel_rfl) rfl ?_ ?_
    ·
     exact ⟨iaQ rfl (zaj rfl) rfl, iaQ rfl (zaj rfl) rfl, iaQ rfl (zaj rfl) rfl, iaQ rfl (riQ 1 rfl rfl rfl rfl (zah 0 rfl)) rfl, iaQ rfl (liQ rfl rfl rfl (zah 0 rfl)) rfl, iaQ rfl (zaj rfl) rfl, iaQ rfl (zaj rfl) rfl, iaQ rfl (riQ 1 rfl rfl rfl rfl (zah 1 rfl)) rfl, iaQ rfl (liQ rfl rfl rfl (zah 1 rfl)) rfl, iaQ rfl (riQ 1 rfl rfl rfl rfl (zah 2 rfl)) rfl, trivial⟩
    simp only [List.drop_succ_cons, List.drop_zero]
    refine zcw (i := 2) (n' := (bs4.set ((ns.getD i6 0).toNat) (qs4.getD q 0)).length) (xs' := ((bs4.set ((ns.getD i6 0).toNat) (qs4.getD q 0)).map (Value.int .i64))) rfl rfl rfl rfl rfl rfl rfl rfl (by first | omega | (simp only [List.length_set]; omega)) List.length_set.symm (zdb _ _ _) rfl (ntQ (reQ 3 rfl (hvQ rfl (riQ 1 rfl rfl rfl rfl (zah 0 rfl)) (hvQ rfl (liQ rfl rfl rfl (zah 0 rfl)) ?_))))
    refine zdu rfl (zau (z := .int .i64 0) (s := 1) (cs := ([ns.getD i6 0].map (Value.int .i64))) rfl Try.underlying26 rfl (by decide) rfl (by kernel_rfl) rfl) ?_
    intro g45
    refine zcf (i := 2) (z := .int .i64 0) (bytes := 8) rfl rfl rfl rfl Try.underlying26 (by kernel_rfl) rfl rfl rfl rfl (zah 0 rfl) (zbw _) (by first | omega | (simp; done) | (simp; omega)) (zbt qs4 ([ns.getD i6 0])) (zcn qs4 ([ns.getD i6 0])) (fun _ => rfl) ?_
    intro v46
    refine enQ 1 rfl (zcv (reQ 1 rfl (hvQ rfl (vaQ rfl rfl rfl) (enQ 1 rfl ?_))))
    exact zca (i6 + 1) (bs4.set ((ns.getD i6 0).toNat) (qs4.getD q 0)) (qs4 ++ ([ns.getD i6 0])) v46 ⟨by omega, hsr4.put (by omega) (by assumption) (.inr hqm), by rw [List.length_append, List.length_singleton]; omega, (by rw [zdq (by omega)]; exact hqe)⟩ (by omega) (saQ rfl) (slQ [1, 0, 0, 0] rfl)
   refine ntQ (fsQ rfl (zcv (reQ 1 rfl (hvQ rfl (vaQ rfl rfl rfl) (enQ 1 rfl ?_)))))
   exact zca (i6 + 1) bs4 qs4 qv4 ⟨by omega, hsr4, by omega, hqe⟩ (by omega) (saQ rfl) (pfQ rfl)
  refine ntQ (zaq rfl ?_)
  refine zaz (zdp ?_)
  refine zaf (zcv (reQ 1 rfl (hvQ rfl (vaQ rfl rfl rfl) (enQ 1 rfl ?_))))
  exact zca (q + 1) bs4 qs4 qv4 ⟨by omega, hsr4⟩ (by omega) (saQ rfl) (slQ [1, 0, 0] rfl)
 refine ntQ (zaq rfl ?_)
 refine zaz (zdp ?_)
 refine zaf (zax (zbc 3 rfl ?_))
 exact zav (zdn (rs := [.tmp 8, .tmp 9]) (vs := [bv, .int .i64 (-1)]) (post := [rowE 3 1 bv bs3.length (bs3.map (Value.int .i64))]) rfl ⟨rfl, rfl, trivial⟩ rfl (slQ [1] rfl) ⟨bs3, _, _, rfl, rfl, hsr3.back, by omega, by omega⟩)
open Go.RowKit
theorem rank_dec {r : Nat → Nat} {a a' : Int} (h0 : 0 ≤ a) (h : 0 ≤ a' → r a'.toNat < r a.toNat) : (if 0 ≤ a' then r a'.toNat + 1 else 0) < (if 0 ≤ a then r a.toNat + 1 else 0) := by
  rw [if_pos h0]; split
  · have := h (by assumption); omega
  · omega
def tFstH (v : Value) : Value := match v with | .tuple #[x, _] => x | _ => undef
def tSndB (v : Value) : Bool := match v with | .tuple #[_, .bool b] => b | _ => false
theorem l17Cut_ret (n : Nt) (ls : List Int) (lv : Value) (node h : Int) (w : World) (hr : RdsNt w n) (hn : NtOk n) (hl : RdsW w lv 1 ls.length (ls.map (Value.int .i64))) (hll : (ls.length : Int) = n.cnt) (hnd : 0 ≤ node ∧ node < n.cnt) :
   Calls Try.prog 97 #[.agg #[.int .i64 n.ins, n.sv, n.av, n.ov], lv, .int .i64 node, .int .i64 h] w (Ret w (fun u_ p_ => ∃ (xs : List Int) (cv : Value) (okb : Bool), u_ = .tuple #[cv, .bool okb] ∧ p_ = [rowE 3 1 cv xs.length (xs.map (Value.int .i64))] ∧ (xs.length : Int) ≤ n.cnt ∧ ∀ x ∈ xs, 0 ≤ x ∧ x < n.cnt)) := by
 have hi0 := hn.i0
 have hi1 := hn.i1
 have hs1 := hn.s1
 have ha1 := hn.a1
 have ho1 := hn.o1
 have hcnt : n.cnt = 1 + n.ins + n.ss.length + n.gs.length := rfl
 have hfst : n.fst = 1 + n.ins + n.ss.length := rfl
 refine zbf (N := 178) (args := [.agg #[.int .i64 n.ins, n.sv, n.av, n.ov], lv, .int .i64 node, .int .i64 h]) Try.func97 rfl rfl (srQ ?_)
 refine zdt rfl (zct rfl rfl) ?_
 intro b1
 refine zbb 2 rfl (srQ (hvQ rfl (zar (cs := [.int .i64 n.ins, n.sv, n.av, n.ov]) rfl rfl rfl rfl rfl (zam 0 rfl 0 rfl)) (zao 1 rfl ?_)))
 refine hl_q rfl rfl rfl (zal rfl rfl (fun w hm => Cone_ret n node w (hr.below hm.bel) hn hnd)) ?_
 intro v2 p3 hR4
 obtain ⟨cs, rfl, hcl, hcr⟩ : ∃ cs : List Int, p3 = [rowE 3 1 v2 cs.length (cs.map (Value.int .i64))] ∧ (cs.length : Int) ≤ n.cnt ∧ ∀ x ∈ cs, 0 ≤ x ∧ x ≤ node := ⟨_, hR4, coneS_len n node (by omega), coneS_rng hn hnd.1⟩
 refine zbb 1 rfl (srQ (hvQ rfl (zar (cs := [.int .i64 n.ins, n.sv, n.av, n.ov]) rfl rfl rfl rfl rfl (zam 1 rfl 0 rfl)) ?_))
 refine zdm rfl (zal rfl rfl (fun w hm => zas (zbs n w (hr.below hm.bel) hn))) (zdu rfl (zei (z := .bool false) (s := 1) (bytes := 1) (n := (List.replicate (n.cnt).toNat bl0).length) (cs := ((List.replicate (n.cnt).toNat bl0).flatMap blC)) rfl Try.underlying80 rfl (by decide) rfl rfl (by first | (rw [List.length_replicate]; done) | (rw [List.length_replicate]; omega)) (by first | (rw [List.length_replicate]; done) | (rw [List.length_replicate]; omega)) (by rw [List.length_replicate]; omega) (zey blC 1 (fun _ => rfl) bl0 _ rfl (n.cnt).toNat)) ?_)
 intro g5
 refine zbb 1 rfl (zac (zbc 1 rfl (zaw ?_)))
 refine lkQ2 (α := Nat) (β := List Bl) [0, 1, 2, 3, 4, 8, 9, 10, 11] rfl (fun i us => [rowE 4 1 (.slice (some ⟨g5, 0, none⟩) ((List.replicate (n.cnt).toNat bl0).length) ((List.replicate (n.cnt).toNat bl0).length)) us.length (us.flatMap blC), rowE 3 1 v2 cs.length (cs.map (Value.int .i64)), boxE b1 #[.int .i64 n.ins, n.sv, n.av, n.ov] 101]) (fun i us => [(12, .int .i64 (i : Int))]) (fun i us => i ≤ cs.length ∧ us.length = n.cnt.toNat) (fun i us => cs.length - i) 0 _ ⟨Nat.zero_le _, by rw [List.length_replicate]⟩ (saQ rfl) (pfQ rfl) ?_
 intro i us hi6
 obtain ⟨hi, hul⟩ := hi6
 refine zac (zac (reQ 2 rfl (hvQ rfl (lnQ rfl rfl rfl (zah 1 rfl)) ?_)))
 refine zbh rfl rfl rfl rfl rfl rfl (fun h7 => ?_) (fun h7 => ?_)
 ·
  refine ntQ (zan rfl (zcp (sbQ ?_)))
  have hci := hcr _ (zch (d := (0 : Int)) (show i < cs.length by omega))
  rcases Bool.eq_false_or_eq_true ((cs.getD i 0) == node) with hb8 | hb8
  ·
   have hb8p : cs.getD i 0 = node := beq_iff_eq.1 hb8
   have hci := hcr _ (zch (d := (0 : Int)) (show i < cs.length by omega))
   refine zbk 23 [[], [], [], [1, 2], [3], [], [], [5, 6], [7], [], [8, 9], [10], [11], [11], [11], [11], [11], [11], [11], [11], [11], [11, 20], [0, 4]] [35, 36, 37, 38, 39, 40, 41, 42, 43, 44, 45, 46, 47, 48, 49, 50, 51, 52, 53, 54, 55, 56, 57] [.slice (some ⟨g5, 0, none⟩) ((List.replicate (n.cnt).toNat bl0).length) ((List.replicate (n.cnt).toNat bl0).length), v2, .int .i64 (i : Int), elP v2 (((i : Int)).toNat * 1), .int .i64 (cs.getD i 0), v2, .int .i64 (i : Int), elP v2 (((i : Int)).toNat * 1), .int .i64 (cs.getD i 0), .int .i64 node, .bool true, .bool true, undef, undef, undef, undef, undef, undef, undef, undef, undef, .bool true, elP (.slice (some ⟨g5, 0, none⟩) ((List.replicate (n.cnt).toNat bl0).length) ((List.replicate (n.cnt).toNat bl0).length)) ((cs.getD i 0).toNat * 1)] (by kernel_rfl) rfl ?_ ?_
   ·
    exact ⟨iaQ rfl (zaj rfl) rfl, iaQ rfl (zaj rfl) rfl, iaQ rfl (zaj rfl) rfl, iaQ rfl (riQ 1 rfl rfl rfl rfl (zah 1 rfl)) rfl, iaQ rfl (liQ rfl rfl rfl (zah 1 rfl)) rfl, iaQ rfl (zaj rfl) rfl, iaQ rfl (zaj rfl) rfl, iaQ rfl (riQ 1 rfl rfl rfl rfl (zah 1 rfl)) rfl, iaQ rfl (liQ rfl rfl rfl (zah 1 rfl)) rfl, iaQ rfl (zaj rfl) rfl, .inl ⟨rfl, zcz (zcd rfl rfl rfl rfl) hb8⟩, iaQ rfl (zaj rfl) rfl, .inr ⟨rfl, rfl⟩, .inr ⟨rfl, rfl⟩, .inr ⟨rfl, rfl⟩, .inr ⟨rfl, rfl⟩, .inr ⟨rfl, rfl⟩, .inr ⟨rfl, rfl⟩, .inr ⟨rfl, rfl⟩, .inr ⟨rfl, rfl⟩, .inr ⟨rfl, rfl⟩, iaQ rfl (zaj rfl) rfl, iaQ rfl (riQ 1 rfl rfl rfl rfl (zah 0 rfl)) rfl, trivial⟩
   simp only [List.drop_succ_cons, List.drop_zero]
   refine zcw (i := 0) (n' := (us.set ((cs.getD i 0).toNat) { us.getD ((cs.getD i 0).toNat) bl0 with b := true }).length) rfl rfl rfl rfl rfl rfl rfl rfl (by first | omega | (simp only [List.length_set]; omega)) List.length_set.symm (zdf blC (fun r => .bool r.b) (fun _ => rfl) _ ({ us.getD ((cs.getD i 0).toNat) bl0 with b := true }) rfl) rfl (zcb (zcv (reQ 1 rfl (hvQ rfl (vaQ rfl rfl rfl) (enQ 1 rfl ?_)))))
   exact zbv (i + 1) (us.set ((cs.getD i 0).toNat) { us.getD ((cs.getD i 0).toNat) bl0 with b := true }) ⟨by omega, by rw [List.length_set]; exact hul⟩ (by omega) (saQ rfl) (pfQ rfl)
  have hb8p : cs.getD i 0 ≠ node := beq_eq_false_iff_ne.1 hb8
  have hci := hcr _ (zch (d := (0 : Int)) (show i < cs.length by omega))
  rcases Bool.eq_false_or_eq_true (decide (h ≤ ls.getD ((cs.getD i 0).toNat) 0)) with hb9 | hb9
  ·
   have hb9p : h ≤ ls.getD ((cs.getD i 0).toNat) 0 := of_decide_eq_true hb9
   have hci := hcr _ (zch (d := (0 : Int)) (show i < cs.length by omega))
   refine zbk 23 [[], [], [], [1, 2], [3], [], [], [5, 6], [7], [], [8, 9], [10], [11], [11], [11], [11, 13, 14], [11, 15], [11, 12, 16], [11, 17], [11], [11, 18, 19], [11, 20], [0, 4]] [35, 36, 37, 38, 39, 40, 41, 42, 43, 44, 45, 46, 47, 48, 49, 50, 51, 52, 53, 54, 55, 56, 57] [.slice (some ⟨g5, 0, none⟩) ((List.replicate (n.cnt).toNat bl0).length) ((List.replicate (n.cnt).toNat bl0).length), v2, .int .i64 (i : Int), elP v2 (((i : Int)).toNat * 1), .int .i64 (cs.getD i 0), v2, .int .i64 (i : Int), elP v2 (((i : Int)).toNat * 1), .int .i64 (cs.getD i 0), .int .i64 node, .bool false, .bool false, lv, v2, .int .i64 (i : Int), elP v2 (((i : Int)).toNat * 1), .int .i64 (cs.getD i 0), elP lv ((cs.getD i 0).toNat * 1), .int .i64 (ls.getD ((cs.getD i 0).toNat) 0), .int .i64 h, .bool true, .bool true, elP (.slice (some ⟨g5, 0, none⟩) ((List.replicate (n.cnt).toNat bl0).length) ((List.replicate (n.cnt).toNat bl0).length)) ((cs.getD i 0).toNat * 1)] (by kernel_rfl) rfl ?_ ?_
   ·
    exact ⟨iaQ rfl (zaj rfl) rfl, iaQ rfl (zaj rfl) rfl, iaQ rfl (zaj rfl) rfl, iaQ rfl (riQ 1 rfl rfl rfl rfl (zah 1 rfl)) rfl, iaQ rfl (liQ rfl rfl rfl (zah 1 rfl)) rfl, iaQ rfl (zaj rfl) rfl, iaQ rfl (zaj rfl) rfl, iaQ rfl (riQ 1 rfl rfl rfl rfl (zah 1 rfl)) rfl, iaQ rfl (liQ rfl rfl rfl (zah 1 rfl)) rfl, iaQ rfl (zaj rfl) rfl, .inl ⟨rfl, zcz (zcd rfl rfl rfl rfl) hb8⟩, iaQ rfl (zaj rfl) rfl, iaQ rfl (zaj rfl) rfl, iaQ rfl (zaj rfl) rfl, iaQ rfl (zaj rfl) rfl, iaQ rfl (riQ 1 rfl rfl rfl rfl (zah 1 rfl)) rfl, iaQ rfl (liQ rfl rfl rfl (zah 1 rfl)) rfl, iaQ rfl (riQ 1 rfl rfl rfl rfl (zaa hl)) rfl, iaQ rfl (lzQ rfl rfl rfl (zaa hl)) rfl, iaQ rfl (zaj rfl) rfl, .inl ⟨rfl, zcz (zcd rfl rfl rfl rfl) hb9⟩, iaQ rfl (zaj rfl) rfl, iaQ rfl (riQ 1 rfl rfl rfl rfl (zah 0 rfl)) rfl, trivial⟩
   simp only [List.drop_succ_cons, List.drop_zero]
   refine zcw (i := 0) (n' := (us.set ((cs.getD i 0).toNat) { us.getD ((cs.getD i 0).toNat) bl0 with b := true }).length) rfl rfl rfl rfl rfl rfl rfl rfl (by first | omega | (simp only [List.length_set]; omega)) List.length_set.symm (zdf blC (fun r => .bool r.b) (fun _ => rfl) _ ({ us.getD ((cs.getD i 0).toNat) bl0 with b := true }) rfl) rfl (zcb (zcv (reQ 1 rfl (hvQ rfl (vaQ rfl rfl rfl) (enQ 1 rfl ?_)))))
   exact zbv (i + 1) (us.set ((cs.getD i 0).toNat) { us.getD ((cs.getD i 0).toNat) bl0 with b := true }) ⟨by omega, by rw [List.length_set]; exact hul⟩ (by omega) (saQ rfl) (pfQ rfl)
  have hb9p : ¬ (h ≤ ls.getD ((cs.getD i 0).toNat) 0) := of_decide_eq_false hb9
  have hci := hcr _ (zch (d := (0 : Int)) (show i < cs.length by omega))
  refine zbk 23 [[], [], [], [1, 2], [3], [], [], [5, 6], [7], [], [8, 9], [10], [11], [11], [11], [11, 13, 14], [11, 15], [11, 12, 16], [11, 17], [11], [11, 18, 19], [11, 20], [0, 4]] [35, 36, 37, 38, 39, 40, 41, 42, 43, 44, 45, 46, 47, 48, 49, 50, 51, 52, 53, 54, 55, 56, 57] [.slice (some ⟨g5, 0, none⟩) ((List.replicate (n.cnt).toNat bl0).length) ((List.replicate (n.cnt).toNat bl0).length), v2, .int .i64 (i : Int), elP v2 (((i : Int)).toNat * 1), .int .i64 (cs.getD i 0), v2, .int .i64 (i : Int), elP v2 (((i : Int)).toNat * 1), .int .i64 (cs.getD i 0), .int .i64 node, .bool false, .bool false, lv, v2, .int .i64 (i : Int), elP v2 (((i : Int)).toNat * 1), .int .i64 (cs.getD i 0), elP lv ((cs.getD i 0).toNat * 1), .int .i64 (ls.getD ((cs.getD i 0).toNat) 0), .int .i64 h, .bool false, .bool false, elP (.slice (some ⟨g5, 0, none⟩) ((List.replicate (n.cnt).toNat bl0).length) ((List.replicate (n.cnt).toNat bl0).length)) ((cs.getD i 0).toNat * 1)] (by kernel_rfl) rfl ?_ ?_
  ·
   exact ⟨iaQ rfl (zaj rfl) rfl, iaQ rfl (zaj rfl) rfl, iaQ rfl (zaj rfl) rfl, iaQ rfl (riQ 1 rfl rfl rfl rfl (zah 1 rfl)) rfl, iaQ rfl (liQ rfl rfl rfl (zah 1 rfl)) rfl, iaQ rfl (zaj rfl) rfl, iaQ rfl (zaj rfl) rfl, iaQ rfl (riQ 1 rfl rfl rfl rfl (zah 1 rfl)) rfl, iaQ rfl (liQ rfl rfl rfl (zah 1 rfl)) rfl, iaQ rfl (zaj rfl) rfl, .inl ⟨rfl, zcz (zcd rfl rfl rfl rfl) hb8⟩, iaQ rfl (zaj rfl) rfl, iaQ rfl (zaj rfl) rfl, iaQ rfl (zaj rfl) rfl, iaQ rfl (zaj rfl) rfl, iaQ rfl (riQ 1 rfl rfl rfl rfl (zah 1 rfl)) rfl, iaQ rfl (liQ rfl rfl rfl (zah 1 rfl)) rfl, iaQ rfl (riQ 1 rfl rfl rfl rfl (zaa hl)) rfl, iaQ rfl (lzQ rfl rfl rfl (zaa hl)) rfl, iaQ rfl (zaj rfl) rfl, .inl ⟨rfl, zcz (zcd rfl rfl rfl rfl) hb9⟩, iaQ rfl (zaj rfl) rfl, iaQ rfl (riQ 1 rfl rfl rfl rfl (zah 0 rfl)) rfl, trivial⟩
  simp only [List.drop_succ_cons, List.drop_zero]
  refine zcw (i := 0) (n' := (us.set ((cs.getD i 0).toNat) { us.getD ((cs.getD i 0).toNat) bl0 with b := false }).length) rfl rfl rfl rfl rfl rfl rfl rfl (by first | omega | (simp only [List.length_set]; omega)) List.length_set.symm (zdf blC (fun r => .bool r.b) (fun _ => rfl) _ ({ us.getD ((cs.getD i 0).toNat) bl0 with b := false }) rfl) rfl (zcb (zcv (reQ 1 rfl (hvQ rfl (vaQ rfl rfl rfl) (enQ 1 rfl ?_)))))
  exact zbv (i + 1) (us.set ((cs.getD i 0).toNat) { us.getD ((cs.getD i 0).toNat) bl0 with b := false }) ⟨by omega, by rw [List.length_set]; exact hul⟩ (by omega) (saQ rfl) (pfQ rfl)
 refine ntQ (zaq rfl ?_)
 refine zaz (zdp ?_)
 refine zaf (zax (srQ (hvQ rfl (zar (cs := [.int .i64 n.ins, n.sv, n.av, n.ov]) rfl rfl rfl rfl rfl (zam 2 rfl 0 rfl)) ?_)))
 refine zdm rfl (zal rfl rfl (fun w hm => zas (zbs n w (hr.below hm.bel) hn))) (zdu rfl (zei (z := .bool false) (s := 1) (bytes := 1) (n := (List.replicate (n.cnt).toNat bl0).length) (cs := ((List.replicate (n.cnt).toNat bl0).flatMap blC)) rfl Try.underlying80 rfl (by decide) rfl rfl (by first | (rw [List.length_replicate]; done) | (rw [List.length_replicate]; omega)) (by first | (rw [List.length_replicate]; done) | (rw [List.length_replicate]; omega)) (by rw [List.length_replicate]; omega) (zey blC 1 (fun _ => rfl) bl0 _ rfl (n.cnt).toNat)) ?_)
 intro g10
 refine zbb 1 rfl (srQ (hvQ rfl (zar (cs := [.int .i64 n.ins, n.sv, n.av, n.ov]) rfl rfl rfl rfl rfl (zam 3 rfl 0 rfl)) ?_))
 refine zdm rfl (zal rfl rfl (fun w hm => zas (zbs n w (hr.below hm.bel) hn))) (zdu rfl (zei (z := .int .i64 0) (s := 1) (bytes := 8) (n := (List.replicate (n.cnt).toNat (0 : Int)).length) (cs := ((List.replicate (n.cnt).toNat (0 : Int)).map (Value.int .i64))) rfl Try.underlying26 rfl (by decide) rfl rfl (by first | (rw [List.length_replicate]; done) | (rw [List.length_replicate]; omega)) (by first | (rw [List.length_replicate]; done) | (rw [List.length_replicate]; omega)) (by rw [List.length_replicate]; omega) (zez _)) ?_)
 intro g11
 refine zbb 1 rfl (srQ ?_)
 refine zdu rfl (zcq (s := 1) rfl Try.underlying26 rfl) ?_
 intro g12
 refine zbb 1 rfl (zac (zbc 1 rfl (zaw ?_)))
 refine lkQ1 (α := Nat) [0, 1, 2, 3, 4, 8, 9, 10, 11, 13, 14, 15, 32] rfl (fun k => [rowE 3 1 (.slice (some ⟨g12, 0, none⟩) 0 0) 0 ([]), rowE 3 1 (.slice (some ⟨g11, 0, none⟩) ((List.replicate (n.cnt).toNat (0 : Int)).length) ((List.replicate (n.cnt).toNat (0 : Int)).length)) ((List.replicate (n.cnt).toNat (0 : Int)).length) ((List.replicate (n.cnt).toNat (0 : Int)).map (Value.int .i64)), rowE 4 1 (.slice (some ⟨g10, 0, none⟩) ((List.replicate (n.cnt).toNat bl0).length) ((List.replicate (n.cnt).toNat bl0).length)) ((List.replicate (n.cnt).toNat bl0).length) ((List.replicate (n.cnt).toNat bl0).flatMap blC), rowE 4 1 (.slice (some ⟨g5, 0, none⟩) ((List.replicate (n.cnt).toNat bl0).length) ((List.replicate (n.cnt).toNat bl0).length)) us.length (us.flatMap blC), rowE 3 1 v2 cs.length (cs.map (Value.int .i64)), boxE b1 #[.int .i64 n.ins, n.sv, n.av, n.ov] 101]) (fun k => [(16, .int .i64 (k : Int))]) (fun k => (k : Int) ≤ n.fst) (fun k => n.fst.toNat - k) 0 (by omega) (saQ rfl) (pfQ rfl) ?_
 intro k hi13
 have hk := hi13
 refine zac (zac (reQ 1 rfl (hvQ rfl (zar (cs := [.int .i64 n.ins, n.sv, n.av, n.ov]) rfl rfl rfl rfl rfl (zam 5 rfl 0 rfl)) ?_)))
 refine zdm rfl (zal rfl rfl (fun w hm => zas (zbz n w (hr.below hm.bel) hn))) (zbh rfl rfl rfl rfl rfl rfl (fun h14 => ?_) (fun h14 => ?_))
 ·
  refine ntQ (zan rfl (zcp (sbQ (zac (reQ 2 rfl (hvQ rfl (riQ 1 rfl rfl rfl rfl (zah 3 rfl)) ?_))))))
  refine hvQ rfl (zat (u := .bool ((us.getD k bl0).b)) rfl rfl rfl (zah 3 rfl) (zbn blC (fun r => .bool r.b) (fun _ => rfl) us bl0 (show k < _ by omega))) (zbl (fun h15 => ?_) (fun h15 => ?_))
  ·
   refine ntQ (zan rfl (zbc 3 rfl ?_))
   refine zav (zak ?_)
   refine zfs ?_
   refine zak (zap ?_)
   exact zdn (rs := [.tmp 8, .tmp 9]) (vs := [.slice (some ⟨g12, 0, none⟩) 0 0, .bool false]) (post := [rowE 3 1 (.slice (some ⟨g12, 0, none⟩) 0 0) 0 ([])]) rfl ⟨rfl, rfl, trivial⟩ rfl (slQ [0] rfl) ⟨[], _, _, rfl, rfl, by simp; omega, fun x hx => by cases hx⟩
  refine ntQ (fsQ rfl (zcv (reQ 1 rfl (hvQ rfl (vaQ rfl rfl rfl) (enQ 1 rfl ?_)))))
  exact zck (k + 1) (by omega) (by omega) (saQ rfl) (pfQ rfl)
 refine ntQ (zaq rfl ?_)
 refine zaz (zdp ?_)
 refine zaf (zax (zac (zbc 1 rfl (zaw ?_))))
 refine lkQ3 (α := Nat) (β := List Bl) (γ := List Int) [0, 1, 2, 3, 4, 8, 9, 10, 11, 13, 14, 15, 32, 68] rfl (fun f ds ab => [rowE 3 1 (.slice (some ⟨g12, 0, none⟩) 0 0) 0 ([]), rowE 3 1 (.slice (some ⟨g11, 0, none⟩) ((List.replicate (n.cnt).toNat (0 : Int)).length) ((List.replicate (n.cnt).toNat (0 : Int)).length)) ab.length (ab.map (Value.int .i64)), rowE 4 1 (.slice (some ⟨g10, 0, none⟩) ((List.replicate (n.cnt).toNat bl0).length) ((List.replicate (n.cnt).toNat bl0).length)) ds.length (ds.flatMap blC), rowE 4 1 (.slice (some ⟨g5, 0, none⟩) ((List.replicate (n.cnt).toNat bl0).length) ((List.replicate (n.cnt).toNat bl0).length)) us.length (us.flatMap blC), rowE 3 1 v2 cs.length (cs.map (Value.int .i64)), boxE b1 #[.int .i64 n.ins, n.sv, n.av, n.ov] 101]) (fun f ds ab => [(17, .int .i64 (f : Int))]) (fun f ds ab => f ≤ 5 ∧ ds.length = n.cnt.toNat ∧ AbOk n.cnt ab) (fun f ds ab => 5 - f) 0 _ _ ⟨by omega, by rw [List.length_replicate], AbOk.start (by omega)⟩ (saQ rfl) (pfQ rfl) ?_
 intro f ds ab hi16
 obtain ⟨hf, hdl, hab⟩ := hi16
 have hab1 := hab.1
 refine zac (zac (reQ 1 rfl ?_))
 refine hl_leq rfl rfl rfl rfl rfl rfl (fun h17 => ?_) (fun h17 => ?_)
 ·
  refine ntQ (zan rfl (zcp (sbQ (srQ (hvQ rfl (zar (cs := [.int .i64 n.ins, n.sv, n.av, n.ov]) rfl rfl rfl rfl rfl (zam 5 rfl 0 rfl)) (zao 3 rfl ?_))))))
  refine hl_q rfl rfl rfl (zal rfl rfl (fun w hm => Search_ret n us ds ab _ _ _ w (hr.below hm.bel) hn ((zah 3 rfl) w hm) (by omega) ((zah 2 rfl) w hm) (by omega) ((zah 1 rfl) w hm) hab)) ?_
  intro v18 p19 hR20
  obtain ⟨bs, bv, at1, rfl, rfl, hbk, hat0, hat1⟩ := hR20
  obtain ⟨r, hrk⟩ := hbk.rank
  have hbl := hbk.len
  refine zbb 5 rfl (zac (zac (reQ 1 rfl ?_)))
  refine zbh rfl rfl rfl rfl rfl rfl (fun h21 => ?_) (fun h21 => ?_)
  ·
   refine ntQ (zan rfl (zac (zbc 1 rfl (zaw ?_))))
   refine lkQ3 (α := Nat) (β := Value) (γ := List Int) [0, 1, 2, 3, 4, 8, 9, 10, 11, 13, 14, 17, 18, 19, 32, 68, 77, 89] rfl (fun k8 ov os => [rowE 3 1 bv bs.length (bs.map (Value.int .i64)), rowE 3 1 ov os.length (os.map (Value.int .i64)), rowE 3 1 (.slice (some ⟨g11, 0, none⟩) ((List.replicate (n.cnt).toNat (0 : Int)).length) ((List.replicate (n.cnt).toNat (0 : Int)).length)) ab.length (ab.map (Value.int .i64)), rowE 4 1 (.slice (some ⟨g10, 0, none⟩) ((List.replicate (n.cnt).toNat bl0).length) ((List.replicate (n.cnt).toNat bl0).length)) ds.length (ds.flatMap blC), rowE 4 1 (.slice (some ⟨g5, 0, none⟩) ((List.replicate (n.cnt).toNat bl0).length) ((List.replicate (n.cnt).toNat bl0).length)) us.length (us.flatMap blC), rowE 3 1 v2 cs.length (cs.map (Value.int .i64)), boxE b1 #[.int .i64 n.ins, n.sv, n.av, n.ov] 101]) (fun k8 ov os => [(15, ov), (20, .int .i64 (k8 : Int))]) (fun k8 ov os => (k8 : Int) ≤ n.cnt ∧ os.length ≤ k8 ∧ ∀ x ∈ os, 0 ≤ x ∧ x < n.cnt) (fun k8 ov os => n.cnt.toNat - k8) 0 _ [] ⟨by omega, by simp, fun x hx => by cases hx⟩ (saQ rfl) (pfQ rfl) ?_
   intro k8 ov os hi22
   obtain ⟨hk8, hol, hor⟩ := hi22
   refine zac (zac (reQ 1 rfl (hvQ rfl (zar (cs := [.int .i64 n.ins, n.sv, n.av, n.ov]) rfl rfl rfl rfl rfl (zam 6 rfl 0 rfl)) ?_)))
   refine zdm rfl (zal rfl rfl (fun w hm => zas (zbs n w (hr.below hm.bel) hn))) (zbh rfl rfl rfl rfl rfl rfl (fun h23 => ?_) (fun h23 => ?_))
   ·
    refine ntQ (zan rfl (zcp (sbQ (zac (reQ 2 rfl (hvQ rfl (zfe rfl rfl rfl (by constructor <;> omega)) (hvQ rfl (riQ 1 rfl rfl rfl rfl (zah 0 rfl)) (hvQ rfl (lzQ rfl rfl rfl (zah 0 rfl)) ?_))))))))
    refine hl_neq rfl rfl rfl rfl rfl rfl (fun h24 => ?_) (fun h24 => ?_)
    ·
     refine zao 3 rfl (hvQ rfl (zfe rfl rfl rfl (by constructor <;> omega)) (hvQ rfl (vaQ rfl rfl rfl) (hvQ rfl (riQ 1 rfl rfl rfl rfl (zah 0 rfl)) (hvQ rfl (lzQ rfl rfl rfl (zah 0 rfl)) ?_))))
     refine zcu rfl rfl rfl rfl rfl rfl (fun h25 => ?_) (fun h25 => ?_)
     ·
      refine zbb 1 rfl (zan rfl (reQ 2 rfl ?_))
      refine zdu rfl (zau (z := .int .i64 0) (s := 1) (cs := ([(k8 : Int)].map (Value.int .i64))) rfl Try.underlying26 rfl (by decide) rfl (by kernel_rfl) rfl) ?_
      intro g26
      refine zcf (i := 2) (z := .int .i64 0) (bytes := 8) rfl rfl rfl rfl Try.underlying26 (by kernel_rfl) rfl rfl rfl rfl (zah 0 rfl) (zbw _) (by first | omega | (simp; done) | (simp; omega)) (zbt os ([(k8 : Int)])) (zcn os ([(k8 : Int)])) (fun _ => rfl) ?_
      intro v27
      refine enQ 1 rfl (zcv (reQ 1 rfl (hvQ rfl (vaQ rfl rfl rfl) (enQ 1 rfl ?_))))
      exact zbi (k8 + 1) v27 (os ++ ([(k8 : Int)])) ⟨by omega, by rw [List.length_append, List.length_singleton]; omega, two_rng hor (by omega)⟩ (by omega) (saQ rfl) (slQ [1, 0, 0, 0, 0, 0, 0] rfl)
     refine zbb 1 rfl (fsQ rfl (zcv (reQ 1 rfl (hvQ rfl (vaQ rfl rfl rfl) (enQ 1 rfl ?_)))))
     exact zbi (k8 + 1) ov os ⟨by omega, by omega, hor⟩ (by omega) (saQ rfl) (pfQ rfl)
    refine zbb 9 rfl (fsQ rfl (zcv ?_))
    refine reQ 1 rfl (hvQ rfl (vaQ rfl rfl rfl) (enQ 1 rfl ?_))
    exact zbi (k8 + 1) ov os ⟨by omega, by omega, hor⟩ (by omega) (saQ rfl) (pfQ rfl)
   refine ntQ (zaq rfl ?_)
   refine zaz (zdp ?_)
   refine zaf (zax (zbc 3 rfl ?_))
   refine zav (zap ?_)
   refine zak (zfs ?_)
   refine zak (zap ?_)
   exact zdn (rs := [.tmp 8, .tmp 9]) (vs := [ov, .bool true]) (post := [rowE 3 1 ov os.length (os.map (Value.int .i64))]) rfl ⟨rfl, rfl, trivial⟩ rfl (slQ [1] rfl) ⟨os, _, _, rfl, rfl, by omega, hor⟩
  refine ntQ (zaq rfl (zcp (zaw ?_)))
  refine lkQ3 (α := Int) (β := List Bl) (γ := List Int) [0, 1, 2, 3, 4, 8, 9, 10, 11, 13, 14, 15, 17, 18, 32, 68, 77, 89] rfl (fun a ds2 ab2 => [rowE 3 1 bv bs.length (bs.map (Value.int .i64)), rowE 3 1 (.slice (some ⟨g12, 0, none⟩) 0 0) 0 ([]), rowE 3 1 (.slice (some ⟨g11, 0, none⟩) ((List.replicate (n.cnt).toNat (0 : Int)).length) ((List.replicate (n.cnt).toNat (0 : Int)).length)) ab2.length (ab2.map (Value.int .i64)), rowE 4 1 (.slice (some ⟨g10, 0, none⟩) ((List.replicate (n.cnt).toNat bl0).length) ((List.replicate (n.cnt).toNat bl0).length)) ds2.length (ds2.flatMap blC), rowE 4 1 (.slice (some ⟨g5, 0, none⟩) ((List.replicate (n.cnt).toNat bl0).length) ((List.replicate (n.cnt).toNat bl0).length)) us.length (us.flatMap blC), rowE 3 1 v2 cs.length (cs.map (Value.int .i64)), boxE b1 #[.int .i64 n.ins, n.sv, n.av, n.ov] 101]) (fun a ds2 ab2 => [(19, .int .i64 a)]) (fun a ds2 ab2 => -2 ≤ a ∧ a < 2 * n.cnt ∧ ds2.length = n.cnt.toNat ∧ AbOk n.cnt ab2) (fun a ds2 ab2 => (if 0 ≤ a then r a.toNat + 1 else 0)) at1 ds ab ⟨by omega, by omega, hdl, hab⟩ (saQ rfl) (pfQ rfl) ?_
  intro a ds2 ab2 hi28
  obtain ⟨ha0, ha1, hdl2, hab2⟩ := hi28
  have hab21 := hab2.1
  refine zac (zac (reQ 1 rfl ?_))
  refine zfh rfl rfl rfl rfl rfl rfl (fun h29 => ?_) (fun h29 => ?_)
  ·
   refine ntQ (zan rfl (zcp (zaw (srQ ?_))))
   have hbr := hbk.rng a.toNat (by omega)
   refine zao 2 rfl (hvQ rfl (riQ 1 rfl rfl rfl rfl (zah 0 rfl)) (hvQ rfl (lzQ rfl rfl rfl (zah 0 rfl)) (zbb 1 rfl (zac (reQ 1 rfl ?_)))))
   refine hvQ rfl (zep rfl rfl rfl (by refine ⟨?_, ?_, ?_⟩ <;> omega)) ?_
   refine zbb 1 rfl ?_
   refine hc_meet2 (α := List Bl) (β := List Int) (fun ds3 ab3 => [rowE 3 1 bv bs.length (bs.map (Value.int .i64)), rowE 3 1 (.slice (some ⟨g12, 0, none⟩) 0 0) 0 ([]), rowE 3 1 (.slice (some ⟨g11, 0, none⟩) ((List.replicate (n.cnt).toNat (0 : Int)).length) ((List.replicate (n.cnt).toNat (0 : Int)).length)) ab3.length (ab3.map (Value.int .i64)), rowE 4 1 (.slice (some ⟨g10, 0, none⟩) ((List.replicate (n.cnt).toNat bl0).length) ((List.replicate (n.cnt).toNat bl0).length)) ds3.length (ds3.flatMap blC), rowE 4 1 (.slice (some ⟨g5, 0, none⟩) ((List.replicate (n.cnt).toNat bl0).length) ((List.replicate (n.cnt).toNat bl0).length)) us.length (us.flatMap blC), rowE 3 1 v2 cs.length (cs.map (Value.int .i64)), boxE b1 #[.int .i64 n.ins, n.sv, n.av, n.ov] 101]) (fun ds3 ab3 => [(0, .agg #[.int .i64 n.ins, n.sv, n.av, n.ov]), (1, lv), (2, .int .i64 node), (3, .int .i64 h), (4, .pointer (some ⟨b1, 0, none⟩)), (8, .slice none 0 0), (9, .bool false), (10, v2), (11, .slice (some ⟨g5, 0, none⟩) ((List.replicate (n.cnt).toNat bl0).length) ((List.replicate (n.cnt).toNat bl0).length)), (13, .slice (some ⟨g10, 0, none⟩) ((List.replicate (n.cnt).toNat bl0).length) ((List.replicate (n.cnt).toNat bl0).length)), (14, .slice (some ⟨g11, 0, none⟩) ((List.replicate (n.cnt).toNat (0 : Int)).length) ((List.replicate (n.cnt).toNat (0 : Int)).length)), (15, .slice (some ⟨g12, 0, none⟩) 0 0), (17, .int .i64 (f : Int)), (18, bv), (19, .int .i64 a), (21, .int .i64 (bs.getD ((a).toNat) 0)), (22, .int .i64 (a / 2)), (32, .bool false), (68, .bool false), (77, .bool true), (89, .bool false), (117, .bool true)]) (fun ds3 ab3 => ds3.length = n.cnt.toNat ∧ AbOk n.cnt ab3) ?_ ?_
   ·
    refine zac (reQ 1 rfl (hvQ rfl (rv_rem rfl rfl rfl (by constructor <;> omega)) ?_))
    refine zcu rfl rfl rfl rfl rfl rfl (fun h30 => ?_) (fun h30 => ?_)
    ·
     refine zao 3 rfl (hvQ rfl (vsQ rfl rfl rfl) ?_)
     refine zcu rfl rfl rfl rfl rfl rfl (fun h31 => ?_) (fun h31 => ?_)
     ·
      refine zbb 1 rfl (zan rfl (reQ 2 rfl (hvQ rfl (riQ 1 rfl rfl rfl rfl (zah 3 rfl)) ?_)))
      refine zcw (i := 3) (n' := (ds2.set ((a / 2).toNat) { ds2.getD ((a / 2).toNat) bl0 with b := true }).length) rfl rfl rfl rfl rfl rfl rfl rfl (by first | omega | (simp only [List.length_set]; omega)) List.length_set.symm (zdf blC (fun r => .bool r.b) (fun _ => rfl) _ ({ ds2.getD ((a / 2).toNat) bl0 with b := true }) rfl) rfl (zcb ?_)
      exact zec (ds2.set ((a / 2).toNat) { ds2.getD ((a / 2).toNat) bl0 with b := true }) ab2 ⟨by first | omega | (simp only [List.length_set]; omega), hab2⟩ (saQ rfl) (pfQ rfl)
     refine zbb 1 rfl (fsQ rfl ?_)
     exact zec ds2 ab2 ⟨by first | omega | (simp only [List.length_set]; omega), hab2⟩ (saQ rfl) (pfQ rfl)
    refine zbb 6 rfl (fsQ rfl ?_)
    exact zec ds2 ab2 ⟨by first | omega | (simp only [List.length_set]; omega), hab2⟩ (saQ rfl) (pfQ rfl)
   intro ds3 ab3 hm32
   obtain ⟨hdl3, hab3⟩ := hm32
   have hab31 := hab3.1
   refine hc_meet2 (α := List Bl) (β := List Int) (fun ds4 ab4 => [rowE 3 1 bv bs.length (bs.map (Value.int .i64)), rowE 3 1 (.slice (some ⟨g12, 0, none⟩) 0 0) 0 ([]), rowE 3 1 (.slice (some ⟨g11, 0, none⟩) ((List.replicate (n.cnt).toNat (0 : Int)).length) ((List.replicate (n.cnt).toNat (0 : Int)).length)) ab4.length (ab4.map (Value.int .i64)), rowE 4 1 (.slice (some ⟨g10, 0, none⟩) ((List.replicate (n.cnt).toNat bl0).length) ((List.replicate (n.cnt).toNat bl0).length)) ds4.length (ds4.flatMap blC), rowE 4 1 (.slice (some ⟨g5, 0, none⟩) ((List.replicate (n.cnt).toNat bl0).length) ((List.replicate (n.cnt).toNat bl0).length)) us.length (us.flatMap blC), rowE 3 1 v2 cs.length (cs.map (Value.int .i64)), boxE b1 #[.int .i64 n.ins, n.sv, n.av, n.ov] 101]) (fun ds4 ab4 => [(0, .agg #[.int .i64 n.ins, n.sv, n.av, n.ov]), (1, lv), (2, .int .i64 node), (3, .int .i64 h), (4, .pointer (some ⟨b1, 0, none⟩)), (8, .slice none 0 0), (9, .bool false), (10, v2), (11, .slice (some ⟨g5, 0, none⟩) ((List.replicate (n.cnt).toNat bl0).length) ((List.replicate (n.cnt).toNat bl0).length)), (13, .slice (some ⟨g10, 0, none⟩) ((List.replicate (n.cnt).toNat bl0).length) ((List.replicate (n.cnt).toNat bl0).length)), (14, .slice (some ⟨g11, 0, none⟩) ((List.replicate (n.cnt).toNat (0 : Int)).length) ((List.replicate (n.cnt).toNat (0 : Int)).length)), (15, .slice (some ⟨g12, 0, none⟩) 0 0), (17, .int .i64 (f : Int)), (18, bv), (19, .int .i64 a), (21, .int .i64 (bs.getD ((a).toNat) 0)), (22, .int .i64 (a / 2)), (32, .bool false), (68, .bool false), (77, .bool true), (89, .bool false), (117, .bool true)]) (fun ds4 ab4 => ds4.length = n.cnt.toNat ∧ AbOk n.cnt ab4) ?_ ?_
   ·
    refine zac (reQ 1 rfl (hvQ rfl (rv_rem rfl rfl rfl (by constructor <;> omega)) ?_))
    refine zcu rfl rfl rfl rfl rfl rfl (fun h33 => ?_) (fun h33 => ?_)
    ·
     refine zao 3 rfl (hvQ rfl (vaQ rfl rfl rfl) ?_)
     refine zcu rfl rfl rfl rfl rfl rfl (fun h34 => ?_) (fun h34 => ?_)
     ·
      refine zbb 1 rfl (zan rfl (reQ 2 rfl (hvQ rfl (riQ 1 rfl rfl rfl rfl (zah 3 rfl)) ?_)))
      refine zcw (i := 3) (n' := (ds3.set ((a / 2).toNat) { ds3.getD ((a / 2).toNat) bl0 with b := false }).length) rfl rfl rfl rfl rfl rfl rfl rfl (by first | omega | (simp only [List.length_set]; omega)) List.length_set.symm (zdf blC (fun r => .bool r.b) (fun _ => rfl) _ ({ ds3.getD ((a / 2).toNat) bl0 with b := false }) rfl) rfl (zcb ?_)
      exact zec (ds3.set ((a / 2).toNat) { ds3.getD ((a / 2).toNat) bl0 with b := false }) ab3 ⟨by first | omega | (simp only [List.length_set]; omega), hab3⟩ (saQ rfl) (pfQ rfl)
     refine zbb 1 rfl (fsQ rfl ?_)
     exact zec ds3 ab3 ⟨by first | omega | (simp only [List.length_set]; omega), hab3⟩ (saQ rfl) (pfQ rfl)
    refine zbb 6 rfl (fsQ rfl ?_)
    exact zec ds3 ab3 ⟨by first | omega | (simp only [List.length_set]; omega), hab3⟩ (saQ rfl) (pfQ rfl)
   intro ds4 ab4 hm35
   obtain ⟨hdl4, hab4⟩ := hm35
   have hab41 := hab4.1
   refine hc_meet2 (α := List Bl) (β := List Int) (fun ds5 ab5 => [rowE 3 1 bv bs.length (bs.map (Value.int .i64)), rowE 3 1 (.slice (some ⟨g12, 0, none⟩) 0 0) 0 ([]), rowE 3 1 (.slice (some ⟨g11, 0, none⟩) ((List.replicate (n.cnt).toNat (0 : Int)).length) ((List.replicate (n.cnt).toNat (0 : Int)).length)) ab5.length (ab5.map (Value.int .i64)), rowE 4 1 (.slice (some ⟨g10, 0, none⟩) ((List.replicate (n.cnt).toNat bl0).length) ((List.replicate (n.cnt).toNat bl0).length)) ds5.length (ds5.flatMap blC), rowE 4 1 (.slice (some ⟨g5, 0, none⟩) ((List.replicate (n.cnt).toNat bl0).length) ((List.replicate (n.cnt).toNat bl0).length)) us.length (us.flatMap blC), rowE 3 1 v2 cs.length (cs.map (Value.int .i64)), boxE b1 #[.int .i64 n.ins, n.sv, n.av, n.ov] 101]) (fun ds5 ab5 => [(0, .agg #[.int .i64 n.ins, n.sv, n.av, n.ov]), (1, lv), (2, .int .i64 node), (3, .int .i64 h), (4, .pointer (some ⟨b1, 0, none⟩)), (8, .slice none 0 0), (9, .bool false), (10, v2), (11, .slice (some ⟨g5, 0, none⟩) ((List.replicate (n.cnt).toNat bl0).length) ((List.replicate (n.cnt).toNat bl0).length)), (13, .slice (some ⟨g10, 0, none⟩) ((List.replicate (n.cnt).toNat bl0).length) ((List.replicate (n.cnt).toNat bl0).length)), (14, .slice (some ⟨g11, 0, none⟩) ((List.replicate (n.cnt).toNat (0 : Int)).length) ((List.replicate (n.cnt).toNat (0 : Int)).length)), (15, .slice (some ⟨g12, 0, none⟩) 0 0), (17, .int .i64 (f : Int)), (18, bv), (19, .int .i64 a), (21, .int .i64 (bs.getD ((a).toNat) 0)), (22, .int .i64 (a / 2)), (32, .bool false), (68, .bool false), (77, .bool true), (89, .bool false), (117, .bool true)]) (fun ds5 ab5 => ds5.length = n.cnt.toNat ∧ AbOk n.cnt ab5) ?_ ?_
   ·
    refine zac (reQ 1 rfl (hvQ rfl (rv_rem rfl rfl rfl (by constructor <;> omega)) ?_))
    refine zcu rfl rfl rfl rfl rfl rfl (fun h36 => ?_) (fun h36 => ?_)
    ·
     refine zao 2 rfl (zcu rfl rfl rfl rfl rfl rfl (fun h37 => ?_) (fun h37 => ?_))
     ·
      refine zbb 1 rfl (zan rfl (reQ 2 rfl (hvQ rfl (riQ 1 rfl rfl rfl rfl (zah 2 rfl)) ?_)))
      refine zcw (i := 2) (n' := (ab4.set ((a / 2).toNat) (-1)).length) (xs' := ((ab4.set ((a / 2).toNat) (-1)).map (Value.int .i64))) rfl rfl rfl rfl rfl rfl rfl rfl (by first | omega | (simp only [List.length_set]; omega)) List.length_set.symm (zdb _ _ _) rfl (zcb ?_)
      exact zec ds4 (ab4.set ((a / 2).toNat) (-1)) ⟨by first | omega | (simp only [List.length_set]; omega), (hab4.set (by omega))⟩ (saQ rfl) (pfQ rfl)
     refine zbb 1 rfl (fsQ rfl ?_)
     exact zec ds4 ab4 ⟨by first | omega | (simp only [List.length_set]; omega), hab4⟩ (saQ rfl) (pfQ rfl)
    refine zbb 4 rfl (fsQ rfl ?_)
    exact zec ds4 ab4 ⟨by first | omega | (simp only [List.length_set]; omega), hab4⟩ (saQ rfl) (pfQ rfl)
   intro ds5 ab5 hm38
   obtain ⟨hdl5, hab5⟩ := hm38
   have hab51 := hab5.1
   refine hc_meet2 (α := List Bl) (β := List Int) (fun ds7 ab7 => [rowE 3 1 bv bs.length (bs.map (Value.int .i64)), rowE 3 1 (.slice (some ⟨g12, 0, none⟩) 0 0) 0 ([]), rowE 3 1 (.slice (some ⟨g11, 0, none⟩) ((List.replicate (n.cnt).toNat (0 : Int)).length) ((List.replicate (n.cnt).toNat (0 : Int)).length)) ab7.length (ab7.map (Value.int .i64)), rowE 4 1 (.slice (some ⟨g10, 0, none⟩) ((List.replicate (n.cnt).toNat bl0).length) ((List.replicate (n.cnt).toNat bl0).length)) ds7.length (ds7.flatMap blC), rowE 4 1 (.slice (some ⟨g5, 0, none⟩) ((List.replicate (n.cnt).toNat bl0).length) ((List.replicate (n.cnt).toNat bl0).length)) us.length (us.flatMap blC), rowE 3 1 v2 cs.length (cs.map (Value.int .i64)), boxE b1 #[.int .i64 n.ins, n.sv, n.av, n.ov] 101]) (fun ds7 ab7 => [(0, .agg #[.int .i64 n.ins, n.sv, n.av, n.ov]), (1, lv), (2, .int .i64 node), (3, .int .i64 h), (4, .pointer (some ⟨b1, 0, none⟩)), (8, .slice none 0 0), (9, .bool false), (10, v2), (11, .slice (some ⟨g5, 0, none⟩) ((List.replicate (n.cnt).toNat bl0).length) ((List.replicate (n.cnt).toNat bl0).length)), (13, .slice (some ⟨g10, 0, none⟩) ((List.replicate (n.cnt).toNat bl0).length) ((List.replicate (n.cnt).toNat bl0).length)), (14, .slice (some ⟨g11, 0, none⟩) ((List.replicate (n.cnt).toNat (0 : Int)).length) ((List.replicate (n.cnt).toNat (0 : Int)).length)), (15, .slice (some ⟨g12, 0, none⟩) 0 0), (17, .int .i64 (f : Int)), (18, bv), (19, .int .i64 a), (21, .int .i64 (bs.getD ((a).toNat) 0)), (22, .int .i64 (a / 2)), (32, .bool false), (68, .bool false), (77, .bool true), (89, .bool false), (117, .bool true)]) (fun ds7 ab7 => ds7.length = n.cnt.toNat ∧ AbOk n.cnt ab7) ?_ ?_
   ·
    refine zac (reQ 1 rfl (hvQ rfl (rv_rem rfl rfl rfl (by constructor <;> omega)) ?_))
    refine zcu rfl rfl rfl rfl rfl rfl (fun h39 => ?_) (fun h39 => ?_)
    ·
     refine zao 2 rfl (zfh rfl rfl rfl rfl rfl rfl (fun h40 => ?_) (fun h40 => ?_))
     ·
      refine zao 4 rfl (hvQ rfl (vaQ rfl rfl rfl) ?_)
      refine hl_neq rfl rfl rfl rfl rfl rfl (fun h41 => ?_) (fun h41 => ?_)
      ·
       refine zbb 1 rfl (zan rfl (reQ 3 rfl ?_))
       refine hvQ rfl (zep rfl rfl rfl (by refine ⟨?_, ?_, ?_⟩ <;> omega)) ?_
       refine hvQ rfl (riQ 1 rfl rfl rfl rfl (zah 2 rfl)) (zcw (i := 2) (n' := (ab5.set ((a / 2).toNat) ((bs.getD ((a).toNat) 0) / 2)).length) (xs' := ((ab5.set ((a / 2).toNat) ((bs.getD ((a).toNat) 0) / 2)).map (Value.int .i64))) rfl rfl rfl rfl rfl rfl rfl rfl (by first | omega | (simp only [List.length_set]; omega)) List.length_set.symm (zdb _ _ _) rfl ?_)
       exact zcb (zec ds5 (ab5.set ((a / 2).toNat) ((bs.getD ((a).toNat) 0) / 2)) ⟨by first | omega | (simp only [List.length_set]; omega), (hab5.set (by omega))⟩ (saQ rfl) (pfQ rfl))
      refine zbb 1 rfl (fsQ rfl ?_)
      exact zec ds5 ab5 ⟨by first | omega | (simp only [List.length_set]; omega), hab5⟩ (saQ rfl) (pfQ rfl)
     refine zbb 7 rfl (fsQ rfl ?_)
     exact zec ds5 ab5 ⟨by first | omega | (simp only [List.length_set]; omega), hab5⟩ (saQ rfl) (pfQ rfl)
    refine zbb 10 rfl (fsQ rfl ?_)
    exact zec ds5 ab5 ⟨by first | omega | (simp only [List.length_set]; omega), hab5⟩ (saQ rfl) (pfQ rfl)
   intro ds7 ab7 hm42
   obtain ⟨hdl7, hab7⟩ := hm42
   have hab71 := hab7.1
   refine zay (enQ 2 rfl (zcm ?_))
   exact zbi (bs.getD a.toNat 0) ds7 ab7 ⟨by omega, by omega, by omega, hab7⟩ (rank_dec (by omega) (fun h => hrk a.toNat (by omega) h)) (saQ rfl) (pfQ rfl)
  refine ntQ (zaq rfl ?_)
  refine zaz (zdp ?_)
  refine zaf (zcv (reQ 1 rfl (hvQ rfl (vaQ rfl rfl rfl) (enQ 1 rfl ?_))))
  exact zbi (f + 1) ds2 ab2 ⟨by omega, by omega, hab2⟩ (by omega) (saQ rfl) (slQ [1, 0, 0, 0, 0, 0] rfl)
 refine ntQ (zaq rfl ?_)
 refine zaz (zdp ?_)
 refine zaf (zax (zbc 3 rfl ?_))
 exact zav (zdn (rs := [.tmp 8, .tmp 9]) (vs := [.slice (some ⟨g12, 0, none⟩) 0 0, .bool false]) (post := [rowE 3 1 (.slice (some ⟨g12, 0, none⟩) 0 0) 0 ([])]) rfl ⟨rfl, rfl, trivial⟩ rfl (slQ [0] rfl) ⟨[], _, _, rfl, rfl, by simp; omega, fun x hx => by cases hx⟩)
theorem Labels_ret (n : Nt) (w : World) (hr : RdsNt w n) (hn : NtOk n) :
   Calls Try.prog 96 #[.agg #[.int .i64 n.ins, n.sv, n.av, n.ov]] w (Ret w (fun u_ p_ => ∃ ls : List Int, p_ = [rowE 3 1 u_ ls.length (ls.map (Value.int .i64))] ∧ LbOk n 0 ls)) := by
 have hi0 := hn.i0
 have hi1 := hn.i1
 have hs1 := hn.s1
 have ha1 := hn.a1
 have ho1 := hn.o1
 have hcnt : n.cnt = 1 + n.ins + n.ss.length + n.gs.length := rfl
 have hfst : n.fst = 1 + n.ins + n.ss.length := rfl
 refine zbf (N := 66) (args := [.agg #[.int .i64 n.ins, n.sv, n.av, n.ov]]) Try.func96 rfl rfl (srQ ?_)
 refine zdt rfl (zct rfl rfl) ?_
 intro b1
 refine zbb 1 rfl (zfl (hvQ rfl (zar (cs := [.int .i64 n.ins, n.sv, n.av, n.ov]) rfl rfl rfl rfl rfl (zam 0 rfl 0 rfl)) ?_))
 refine zdm rfl (zal rfl rfl (fun w hm => zas (zds n w (hr.below hm.bel) hn))) (zbb 1 rfl (zaq rfl (zcp (srQ (hvQ rfl (zar (cs := [.int .i64 n.ins, n.sv, n.av, n.ov]) rfl rfl rfl rfl rfl (zam 0 rfl 0 rfl)) ?_)))))
 refine zdm rfl (zal rfl rfl (fun w hm => zas (zbs n w (hr.below hm.bel) hn))) (zdu rfl (zei (z := .int .i64 0) (s := 1) (bytes := 8) (n := (List.replicate (n.cnt).toNat (0 : Int)).length) (cs := ((List.replicate (n.cnt).toNat (0 : Int)).map (Value.int .i64))) rfl Try.underlying26 rfl (by decide) rfl rfl (by first | (rw [List.length_replicate]; done) | (rw [List.length_replicate]; omega)) (by first | (rw [List.length_replicate]; done) | (rw [List.length_replicate]; omega)) (by rw [List.length_replicate]; omega) (zez _)) ?_)
 intro g2
 refine zbb 1 rfl (zfl (hvQ rfl (zar (cs := [.int .i64 n.ins, n.sv, n.av, n.ov]) rfl rfl rfl rfl rfl (zam 1 rfl 0 rfl)) ?_))
 refine zdm rfl (zal rfl rfl (fun w hm => zas (zbz n w (hr.below hm.bel) hn))) (zbb 1 rfl (zaw ?_))
 refine zfw (α := Nat) (β := List Int) (fun i ls => [rowE 3 1 (.slice (some ⟨g2, 0, none⟩) ((List.replicate (n.cnt).toNat (0 : Int)).length) ((List.replicate (n.cnt).toNat (0 : Int)).length)) ls.length (ls.map (Value.int .i64)), boxE b1 #[.int .i64 n.ins, n.sv, n.av, n.ov] 101]) (fun i ls => [(0, .agg #[.int .i64 n.ins, n.sv, n.av, n.ov]), (1, .pointer (some ⟨b1, 0, none⟩)), (2, .slice none 0 0), (3, .slice (some ⟨g2, 0, none⟩) ((List.replicate (n.cnt).toNat (0 : Int)).length) ((List.replicate (n.cnt).toNat (0 : Int)).length)), (4, .int .i64 (n.fst + (i : Int))), (11, .bool false)]) (fun i ls => i ≤ n.gs.length ∧ LbOk n 0 ls) (fun i ls => n.gs.length - i) 0 _ ⟨Nat.zero_le _, LbOk.start (by omega)⟩ (zbe [3, 2, 1, 0] _ (sk 4 (congrArg (fun x => some (Value.int .i64 x)) (by simp)) (zai [11] rfl)) rfl) (pfQ rfl) ?_
 intro i ls hi3
 obtain ⟨hi, hlb⟩ := hi3
 have hll := hlb.len
 refine zac (zac (reQ 1 rfl (hvQ rfl (zar (cs := [.int .i64 n.ins, n.sv, n.av, n.ov]) rfl rfl rfl rfl rfl (zam 1 rfl 0 rfl)) ?_)))
 refine zdm rfl (zal rfl rfl (fun w hm => zas (zbs n w (hr.below hm.bel) hn))) (zbh rfl rfl rfl rfl rfl rfl (fun h4 => ?_) (fun h4 => ?_))
 ·
  refine ntQ (zan rfl (zcp (sbQ (zac ?_))))
  have hani := hn.an ((n.fst + (i : Int)) - n.fst).toNat (by omega)
  unfold LtOk at hani
  have hl1 := hlb.at_ ((n.gs.getD (((n.fst + (i : Int)) - n.fst).toNat) an0).a / 2).toNat (by omega)
  have hl2 := hlb.at_ ((n.gs.getD (((n.fst + (i : Int)) - n.fst).toNat) an0).b / 2).toNat (by omega)
  refine zdo rfl 9 [0, 1, 2, 3, 4, 5, 6, 7, 8] (List.take 9 _) (List.drop 9 _) [[], [0], [], [], [3], [2, 4], [1, 5], [6], []] [24, 25, 26, 27, 28, 29, 30, 31, 5] (fun i_ vs_ v_ p_ => match i_ with | 0 => v_ = .pointer (some ⟨b1, 0 + 2, none⟩) ∧ p_ = [] | 1 => v_ = n.av ∧ p_ = [] | 2 => v_ = .int .i64 (n.fst + (i : Int)) ∧ p_ = [] | 3 => v_ = .agg #[.int .i64 n.ins, n.sv, n.av, n.ov] ∧ p_ = [] | 4 => v_ = .int .i64 n.fst ∧ p_ = [] | 5 => v_ = .int .i64 ((n.fst + (i : Int)) - n.fst) ∧ p_ = [] | 6 => v_ = elP n.av (((n.fst + (i : Int)) - n.fst).toNat * 2) ∧ p_ = [] | 7 => v_ = .agg #[.int .i64 ((n.gs.getD (((n.fst + (i : Int)) - n.fst).toNat) an0).a), .int .i64 ((n.gs.getD (((n.fst + (i : Int)) - n.fst).toNat) an0).b)] ∧ p_ = [] | 8 => IsBox #[.int .i64 0, .int .i64 0] 124 v_ p_ | _ => True) (List.take_append_drop 9 _).symm (by kernel_rfl) (by kernel_rfl) rfl rfl ?_ ?_
  ·
   refine ⟨?_, ?_, ?_, ?_, ?_, ?_, ?_, ?_, ?_, trivial⟩
   ·
    intro vf pf hR
    exact ovQ rfl (zai [1] rfl) (zbd (fdQ 2 rfl rfl rfl))
   ·
    intro vf pf hR
    have e0 := hR 0 (by decide)
    exact olQ rfl (sk 24 (congrArg some e0.1) (zab _)) (zbd (zag rfl rfl rfl (zad 1 rfl rfl)))
   ·
    intro vf pf hR
    exact ovQ rfl (zai [4] rfl) (zbd (zaj rfl))
   ·
    intro vf pf hR
    exact olQ rfl (zai [1] rfl) (zbd (zar (cs := [.int .i64 n.ins, n.sv, n.av, n.ov]) rfl rfl rfl rfl rfl (zam 1 rfl 0 rfl)))
   ·
    intro vf pf hR
    have e3 := hR 3 (by decide)
    exact olQ rfl (sk 27 (congrArg some e3.1) (zab _)) (zal rfl rfl (fun w hm => zas (zbz n w (hr.below hm.bel) hn)))
   ·
    intro vf pf hR
    have e2 := hR 2 (by decide)
    have e4 := hR 4 (by decide)
    exact ovQ rfl (sk 26 (congrArg some e2.1) (sk 28 (congrArg some e4.1) (zab _))) (zbd (vsQ rfl rfl rfl))
   ·
    intro vf pf hR
    have e1 := hR 1 (by decide)
    have e5 := hR 5 (by decide)
    exact olQ rfl (sk 25 (congrArg some e1.1) (sk 29 (congrArg some e5.1) (zab _))) (zbd (riQ 2 rfl rfl rfl rfl (zaa hr.an)))
   ·
    intro vf pf hR
    have e6 := hR 6 (by decide)
    exact olQ rfl (sk 30 (congrArg some e6.1) (zab _)) (zbd (zcl (us := [.int .i64 ((n.gs.getD (((n.fst + (i : Int)) - n.fst).toNat) an0).a), .int .i64 ((n.gs.getD (((n.fst + (i : Int)) - n.fst).toNat) an0).b)]) rfl rfl rfl rfl (zaa hr.an) (by omega) rfl (zde anC 2 (fun _ => rfl) n.gs an0 (show ((n.fst + (i : Int)) - n.fst).toNat < _ by omega) rfl)))
   intro vf pf hR
   exact olQ rfl (zab _) (zbm (z := .agg #[.int .i64 0, .int .i64 0]) rfl rfl)
  intro vf pf hR
  have e7 := hR 7 (by decide)
  have e8 : IsBox #[.int .i64 0, .int .i64 0] 124 (vf 8) (pf 8) := hR 8 (by decide)
  obtain ⟨b5, vE8, pE8⟩ := e8
  have q0 := hR 0 (by decide)
  have q1 := hR 1 (by decide)
  have q2 := hR 2 (by decide)
  have q3 := hR 3 (by decide)
  have q4 := hR 4 (by decide)
  have q5 := hR 5 (by decide)
  have q6 := hR 6 (by decide)
  have q7 := hR 7 (by decide)
  refine zce (zbe [4, 3, 2, 1, 0] _ (sk 5 (congrArg some vE8) (sk 11 rfl (sk 21 rfl (sk 31 (congrArg some e7.1) (zab _))))) rfl) (by simp only [pE8, vE8, q0.2, q1.2, q2.2, q3.2, q4.2, q5.2, q6.2, q7.2, fS] <;> rfl) ?_
  simp only [List.drop_succ_cons, List.drop_zero]
  refine zbr (cs' := #[.int .i64 ((n.gs.getD (((n.fst + (i : Int)) - n.fst).toNat) an0).a), .int .i64 ((n.gs.getD (((n.fst + (i : Int)) - n.fst).toNat) an0).b)]) (i := 0) (off := 0) (us := [.int .i64 ((n.gs.getD (((n.fst + (i : Int)) - n.fst).toNat) an0).a), .int .i64 ((n.gs.getD (((n.fst + (i : Int)) - n.fst).toNat) an0).b)]) rfl rfl rfl rfl rfl rfl rfl (zae rfl (zae rfl zbj)) rfl rfl rfl (ntQ (zac ?_))
  refine zbk 13 [[], [], [1], [2], [0, 3], [4], [], [], [7], [8], [6, 9], [10], [5, 11]] [32, 33, 34, 35, 36, 37, 38, 39, 40, 41, 42, 43, 44] [.slice (some ⟨g2, 0, none⟩) ((List.replicate (n.cnt).toNat (0 : Int)).length) ((List.replicate (n.cnt).toNat (0 : Int)).length), .pointer (some ⟨b5, 0 + 0, none⟩), .int .i64 ((n.gs.getD (((n.fst + (i : Int)) - n.fst).toNat) an0).a), .int .i64 (((n.gs.getD (((n.fst + (i : Int)) - n.fst).toNat) an0).a) / 2), elP (.slice (some ⟨g2, 0, none⟩) ((List.replicate (n.cnt).toNat (0 : Int)).length) ((List.replicate (n.cnt).toNat (0 : Int)).length)) ((((n.gs.getD (((n.fst + (i : Int)) - n.fst).toNat) an0).a) / 2).toNat * 1), .int .i64 (ls.getD ((((n.gs.getD (((n.fst + (i : Int)) - n.fst).toNat) an0).a) / 2).toNat) 0), .slice (some ⟨g2, 0, none⟩) ((List.replicate (n.cnt).toNat (0 : Int)).length) ((List.replicate (n.cnt).toNat (0 : Int)).length), .pointer (some ⟨b5, 0 + 1, none⟩), .int .i64 ((n.gs.getD (((n.fst + (i : Int)) - n.fst).toNat) an0).b), .int .i64 (((n.gs.getD (((n.fst + (i : Int)) - n.fst).toNat) an0).b) / 2), elP (.slice (some ⟨g2, 0, none⟩) ((List.replicate (n.cnt).toNat (0 : Int)).length) ((List.replicate (n.cnt).toNat (0 : Int)).length)) ((((n.gs.getD (((n.fst + (i : Int)) - n.fst).toNat) an0).b) / 2).toNat * 1), .int .i64 (ls.getD ((((n.gs.getD (((n.fst + (i : Int)) - n.fst).toNat) an0).b) / 2).toNat) 0), .int .i64 (if ls.getD ((((n.gs.getD (((n.fst + (i : Int)) - n.fst).toNat) an0).a) / 2).toNat) 0 < ls.getD ((((n.gs.getD (((n.fst + (i : Int)) - n.fst).toNat) an0).b) / 2).toNat) 0 then ls.getD ((((n.gs.getD (((n.fst + (i : Int)) - n.fst).toNat) an0).b) / 2).toNat) 0 else ls.getD ((((n.gs.getD (((n.fst + (i : Int)) - n.fst).toNat) an0).a) / 2).toNat) 0)] (by kernel_rfl) rfl ?_ ?_
  ·
   exact ⟨iaQ rfl (zaj rfl) rfl, iaQ rfl (fdQ 0 rfl rfl rfl) rfl, iaQ rfl (zag rfl rfl rfl (zad 0 rfl rfl)) rfl, iaQ rfl (zep rfl rfl rfl (by refine ⟨?_, ?_, ?_⟩ <;> omega)) rfl, iaQ rfl (riQ 1 rfl rfl rfl rfl (zah 1 rfl)) rfl, iaQ rfl (lzQ rfl rfl rfl (zah 1 rfl)) rfl, iaQ rfl (zaj rfl) rfl, iaQ rfl (fdQ 1 rfl rfl rfl) rfl, iaQ rfl (zag rfl rfl rfl (zad 0 rfl rfl)) rfl, iaQ rfl (zep rfl rfl rfl (by refine ⟨?_, ?_, ?_⟩ <;> omega)) rfl, iaQ rfl (riQ 1 rfl rfl rfl rfl (zah 1 rfl)) rfl, iaQ rfl (lzQ rfl rfl rfl (zah 1 rfl)) rfl, iaQ rfl (rv_max rfl rfl rfl) rfl, trivial⟩
  simp only [List.drop_succ_cons, List.drop_zero]
  refine zbb 1 rfl (srQ ?_)
  obtain ⟨p, hp⟩ : ∃ x, (if ls.getD ((((n.gs.getD (((n.fst + (i : Int)) - n.fst).toNat) an0).a) / 2).toNat) 0 < ls.getD ((((n.gs.getD (((n.fst + (i : Int)) - n.fst).toNat) an0).b) / 2).toNat) 0 then ls.getD ((((n.gs.getD (((n.fst + (i : Int)) - n.fst).toNat) an0).b) / 2).toNat) 0 else ls.getD ((((n.gs.getD (((n.fst + (i : Int)) - n.fst).toNat) an0).a) / 2).toNat) 0) = x := ⟨_, rfl⟩
  rw [hp]
  have hp2 : 0 ≤ p ∧ p < n.fst + (i : Int) := by rw [← hp]; split <;> omega
  refine zao 3 rfl (hvQ rfl (vaQ rfl rfl rfl) (hvQ rfl (riQ 1 rfl rfl rfl rfl (zah 1 rfl)) ?_))
  refine zcw (i := 1) (n' := (ls.set ((n.fst + (i : Int)).toNat) (p + 1)).length) (xs' := ((ls.set ((n.fst + (i : Int)).toNat) (p + 1)).map (Value.int .i64))) rfl rfl rfl rfl rfl rfl rfl rfl (by first | omega | (simp only [List.length_set]; omega)) List.length_set.symm (zdb _ _ _) rfl (ntQ (zac (reQ 1 rfl ?_)))
  refine zfa rfl rfl rfl rfl rfl rfl (fun h6 => ?_) (fun h6 => ?_)
  ·
   refine ntQ (zan rfl (srQ (hvQ rfl (zar (cs := [.int .i64 n.ins, n.sv, n.av, n.ov]) rfl rfl rfl rfl rfl (zam 2 rfl 0 rfl)) (zao 3 rfl ?_))))
   refine hl_q rfl rfl rfl (zal rfl rfl (fun w hm => l17Cut_ret n (ls.set ((n.fst + (i : Int)).toNat) (p + 1)) _ (n.fst + (i : Int)) p w (hr.below hm.bel) hn ((zah 1 rfl) w hm) (by first | omega | (simp only [List.length_set]; omega)) (by omega))) ?_
   intro v7 p8 hR9
   obtain ⟨xs, cv, okb, rfl, rfl, hxl, hxr⟩ := hR9
   refine zao 3 rfl (zbl (fun h10 => ?_) (fun h10 => ?_))
   ·
    refine zbb 2 rfl (zbc 1 rfl (zan rfl (reQ 3 rfl (hvQ rfl (riQ 1 rfl rfl rfl rfl (zah 2 rfl) (by omega) (by first | omega | (simp only [List.length_set]; omega))) ?_))))
    refine zcw (i := 2) (n' := ((ls.set ((n.fst + (i : Int)).toNat) (p + 1)).set ((n.fst + (i : Int)).toNat) p).length) (xs' := (((ls.set ((n.fst + (i : Int)).toNat) (p + 1)).set ((n.fst + (i : Int)).toNat) p).map (Value.int .i64))) rfl rfl rfl rfl rfl rfl rfl rfl (by first | omega | (simp only [List.length_set]; omega)) List.length_set.symm (zdb _ _ _) rfl (zcb (zcv (reQ 1 rfl (hvQ rfl (vaQ rfl rfl rfl) (enQ 1 rfl ?_)))))
    exact zbv (i + 1) ((ls.set ((n.fst + (i : Int)).toNat) (p + 1)).set ((n.fst + (i : Int)).toNat) p) ⟨by omega, (hlb.set (j := 0) (by omega)).set (j := 0) (by omega)⟩ (by omega) (zbe [3, 2, 1, 0] _ (sk 4 (congrArg (fun x => some (Value.int .i64 x)) (by omega)) (zai [11] rfl)) rfl) (slQ [2, 0] rfl)
   refine zbb 2 rfl (zbc 1 rfl (fsQ rfl (zcv ?_)))
   refine reQ 1 rfl (hvQ rfl (vaQ rfl rfl rfl) (enQ 1 rfl ?_))
   exact zbv (i + 1) (ls.set ((n.fst + (i : Int)).toNat) (p + 1)) ⟨by omega, hlb.set (j := 0) (by omega)⟩ (by omega) (zbe [3, 2, 1, 0] _ (sk 4 (congrArg (fun x => some (Value.int .i64 x)) (by omega)) (zai [11] rfl)) rfl) (slQ [2, 0] rfl)
  refine ntQ (fsQ rfl (zcv (reQ 1 rfl (hvQ rfl (vaQ rfl rfl rfl) (enQ 1 rfl ?_)))))
  exact zbv (i + 1) (ls.set ((n.fst + (i : Int)).toNat) (p + 1)) ⟨by omega, hlb.set (j := 0) (by omega)⟩ (by omega) (zbe [3, 2, 1, 0] _ (sk 4 (congrArg (fun x => some (Value.int .i64 x)) (by omega)) (zai [11] rfl)) rfl) (slQ [1, 0] rfl)
 refine ntQ (zaq rfl ?_)
 refine zaz (zdp ?_)
 refine zaf (zax (zbc 2 rfl ?_))
 exact zav (zdc (post := [rowE 3 1 (.slice (some ⟨g2, 0, none⟩) ((List.replicate (n.cnt).toNat (0 : Int)).length) ((List.replicate (n.cnt).toNat (0 : Int)).length)) ls.length (ls.map (Value.int .i64))]) rfl rfl (slQ [0] rfl) ⟨_, rfl, hlb⟩)
theorem DepthMapping_ret (n : Nt) (w : World) (hr : RdsNt w n) (hn : NtOk n) :
   Calls Try.prog 84 #[.agg #[.int .i64 n.ins, n.sv, n.av, n.ov]] w (Ret w (fun u_ p_ => ∃ (ps : List HP) (rs : List CRow), p_ = [rowE 26 1 u_ rs.length (rs.flatMap crowC), bigE ps] ∧ (∀ w, (bigE ps).holds w → RdsAll w rs) ∧ rs.length = n.gs.length ∧ ∀ r ∈ rs, r.xs.length ≤ 400)) := by
 have hi0 := hn.i0
 have hi1 := hn.i1
 have hs1 := hn.s1
 have ha1 := hn.a1
 have ho1 := hn.o1
 have hcnt : n.cnt = 1 + n.ins + n.ss.length + n.gs.length := rfl
 have hfst : n.fst = 1 + n.ins + n.ss.length := rfl
 refine zbf (N := 39) (args := [.agg #[.int .i64 n.ins, n.sv, n.av, n.ov]]) Try.func84 rfl rfl (srQ ?_)
 refine zdt rfl (zct rfl rfl) ?_
 intro b1
 refine zbb 1 rfl (srQ ?_)
 refine zdu rfl (zcq (s := 1) rfl Try.underlying41 rfl) ?_
 intro g2
 refine zbb 1 rfl (zfl (hvQ rfl (zar (cs := [.int .i64 n.ins, n.sv, n.av, n.ov]) rfl rfl rfl rfl rfl (zam 1 rfl 0 rfl)) ?_))
 refine zdm rfl (zal rfl rfl (fun w hm => zas (zds n w (hr.below hm.bel) hn))) (zbb 1 rfl (zaq rfl (zcp (srQ (hvQ rfl (zar (cs := [.int .i64 n.ins, n.sv, n.av, n.ov]) rfl rfl rfl rfl rfl (zam 1 rfl 0 rfl)) ?_)))))
 refine hl_q rfl rfl rfl (zal rfl rfl (fun w hm => Labels_ret n w (hr.below hm.bel) hn)) ?_
 intro v3 p4 hR5
 obtain ⟨ls, rfl, hlb⟩ := hR5
 have hll := hlb.len
 refine zbb 1 rfl (zfl (hvQ rfl (zar (cs := [.int .i64 n.ins, n.sv, n.av, n.ov]) rfl rfl rfl rfl rfl (zam 2 rfl 0 rfl)) ?_))
 refine zdm rfl (zal rfl rfl (fun w hm => zas (zbz n w (hr.below hm.bel) hn))) (zbb 1 rfl (zaw ?_))
 refine zdl _ zfx ?_
 refine hc_loop4 (α := Nat) (β := List CRow) (γ := Value) (δ := List HP) (fun i rs ov ps => [bigE ps, rowE 3 1 v3 ls.length (ls.map (Value.int .i64)), rowE 26 1 ov rs.length (rs.flatMap crowC), boxE b1 #[.int .i64 n.ins, n.sv, n.av, n.ov] 101]) (fun i rs ov ps => [(0, .agg #[.int .i64 n.ins, n.sv, n.av, n.ov]), (1, .pointer (some ⟨b1, 0, none⟩)), (2, .slice none 0 0), (3, ov), (4, v3), (5, .int .i64 (n.fst + (i : Int))), (11, .bool false)]) (fun i rs ov ps => i ≤ n.gs.length ∧ rs.length = i ∧ (∀ r ∈ rs, r.xs.length ≤ 400) ∧ ∀ w, (bigE ps).holds w → RdsAll w rs) (fun i rs ov ps => n.gs.length - i) 0 [] _ _ ⟨Nat.zero_le _, rfl, (fun r hr => by cases hr), fun w _ => RdsAll.nil w⟩ (zbe [4, 3, 2, 1, 0] _ (sk 5 (congrArg (fun x => some (Value.int .i64 x)) (by simp)) (zai [11] rfl)) rfl) (pfQ rfl) ?_
 intro i rs ov ps hi6
 obtain ⟨hi, hrl, hrs, hps⟩ := hi6
 refine zac (zac (reQ 1 rfl (hvQ rfl (zar (cs := [.int .i64 n.ins, n.sv, n.av, n.ov]) rfl rfl rfl rfl rfl (zam 3 rfl 0 rfl)) ?_)))
 refine zdm rfl (zal rfl rfl (fun w hm => zas (zbs n w (hr.below hm.bel) hn))) (zbh rfl rfl rfl rfl rfl rfl (fun h7 => ?_) (fun h7 => ?_))
 ·
  refine ntQ (zan rfl (zcp (sbQ (zac ?_))))
  refine zdo rfl 12 [0, 1, 2, 3, 4, 5, 6, 7, 8, 9, 10, 11] (List.take 12 _) (List.drop 12 _) [[], [], [], [], [], [3, 4], [5], [0, 1, 2, 6], [7], [7, 8], [7, 8], [7, 9]] [24, 25, 26, 27, 28, 29, 30, 31, 23, 32, 33, 6] (fun i_ vs_ v_ p_ => match i_ with | 0 => v_ = .agg #[.int .i64 n.ins, n.sv, n.av, n.ov] ∧ p_ = [] | 1 => v_ = v3 ∧ p_ = [] | 2 => v_ = .int .i64 (n.fst + (i : Int)) ∧ p_ = [] | 3 => v_ = v3 ∧ p_ = [] | 4 => v_ = .int .i64 (n.fst + (i : Int)) ∧ p_ = [] | 5 => v_ = elP v3 ((n.fst + (i : Int)).toNat * 1) ∧ p_ = [] | 6 => v_ = .int .i64 (ls.getD ((n.fst + (i : Int)).toNat) 0) ∧ p_ = [] | 7 => (fun u_ p_ => ∃ (xs : List Int) (cv : Value) (okb : Bool), u_ = .tuple #[cv, .bool okb] ∧ p_ = [rowE 3 1 cv xs.length (xs.map (Value.int .i64))] ∧ (xs.length : Int) ≤ n.cnt ∧ ∀ x ∈ xs, 0 ≤ x ∧ x < n.cnt) v_ p_ | 8 => v_ = .tuple #[(tFstH (List.getD vs_ 0 undef)), .bool (tSndB (List.getD vs_ 0 undef))] ∧ p_ = [] | 9 => v_ = (tFstH (List.getD vs_ 0 undef)) ∧ p_ = [] | 10 => v_ = .bool (tSndB (List.getD vs_ 0 undef)) ∧ p_ = [] | 11 => v_ = (tFstH (List.getD vs_ 0 undef)) ∧ p_ = [] | _ => True) (List.take_append_drop 12 _).symm (by kernel_rfl) (by kernel_rfl) rfl rfl ?_ ?_
  ·
   refine ⟨?_, ?_, ?_, ?_, ?_, ?_, ?_, ?_, ?_, ?_, ?_, ?_, trivial⟩
   ·
    intro vf pf hR
    exact olQ rfl (zai [1] rfl) (zbd (zar (cs := [.int .i64 n.ins, n.sv, n.av, n.ov]) rfl rfl rfl rfl rfl (zam 3 rfl 0 rfl)))
   ·
    intro vf pf hR
    exact ovQ rfl (zai [4] rfl) (zbd (zaj rfl))
   ·
    intro vf pf hR
    exact ovQ rfl (zai [5] rfl) (zbd (zaj rfl))
   ·
    intro vf pf hR
    exact ovQ rfl (zai [4] rfl) (zbd (zaj rfl))
   ·
    intro vf pf hR
    exact ovQ rfl (zai [5] rfl) (zbd (zaj rfl))
   ·
    intro vf pf hR
    have e3 := hR 3 (by decide)
    have e4 := hR 4 (by decide)
    exact olQ rfl (sk 27 (congrArg some e3.1) (sk 28 (congrArg some e4.1) (zab _))) (zbd (riQ 1 rfl rfl rfl rfl (zah 1 rfl)))
   ·
    intro vf pf hR
    have e5 := hR 5 (by decide)
    exact olQ rfl (sk 29 (congrArg some e5.1) (zab _)) (zbd (lzQ rfl rfl rfl (zah 1 rfl)))
   ·
    intro vf pf hR
    have e0 := hR 0 (by decide)
    have e1 := hR 1 (by decide)
    have e2 := hR 2 (by decide)
    have e6 := hR 6 (by decide)
    exact olQ rfl (sk 24 (congrArg some e0.1) (sk 25 (congrArg some e1.1) (sk 26 (congrArg some e2.1) (sk 30 (congrArg some e6.1) (zab _))))) (zal rfl rfl (fun w hm => l17Cut_ret n ls _ (n.fst + (i : Int)) (ls.getD ((n.fst + (i : Int)).toNat) 0) w (hr.below hm.bel) hn ((zah 1 rfl) w hm) (by first | omega | (simp only [List.length_set]; omega)) (by omega)))
   ·
    intro vf pf hR
    have e7 : (fun u_ p_ => ∃ (xs : List Int) (cv : Value) (okb : Bool), u_ = .tuple #[cv, .bool okb] ∧ p_ = [rowE 3 1 cv xs.length (xs.map (Value.int .i64))] ∧ (xs.length : Int) ≤ n.cnt ∧ ∀ x ∈ xs, 0 ≤ x ∧ x < n.cnt) (vf 7) (pf 7) := hR 7 (by decide)
    obtain ⟨v8, vE7⟩ : ∃ x, vf 7 = x := ⟨_, rfl⟩
    obtain ⟨p9, pE7⟩ : ∃ x, pf 7 = x := ⟨_, rfl⟩
    have hR10 := e7
    rw [vE7, pE7] at hR10
    obtain ⟨xs, cv, okb, rfl, rfl, hxl, hxr⟩ := hR10
    refine Or.inl ⟨rfl, ?_⟩
    exact zcc (sk 31 (congrArg some vE7) (zab _)) (by simp only [pE7, vE7, fS] <;> rfl) (zco (zbd (zaj rfl)) (fun _ _ h => ⟨h.1.trans (by show _ = (.tuple #[(tFstH (vf 7)), .bool (tSndB (vf 7))] : Value); first | (rw [vE7]; done) | (rw [vE7]; rfl)), h.2⟩))
   ·
    intro vf pf hR
    have e7 : (fun u_ p_ => ∃ (xs : List Int) (cv : Value) (okb : Bool), u_ = .tuple #[cv, .bool okb] ∧ p_ = [rowE 3 1 cv xs.length (xs.map (Value.int .i64))] ∧ (xs.length : Int) ≤ n.cnt ∧ ∀ x ∈ xs, 0 ≤ x ∧ x < n.cnt) (vf 7) (pf 7) := hR 7 (by decide)
    obtain ⟨v8, vE7⟩ : ∃ x, vf 7 = x := ⟨_, rfl⟩
    obtain ⟨p9, pE7⟩ : ∃ x, pf 7 = x := ⟨_, rfl⟩
    have hR10 := e7
    rw [vE7, pE7] at hR10
    obtain ⟨xs, cv, okb, rfl, rfl, hxl, hxr⟩ := hR10
    have e8 : (vf 8) = .tuple #[(tFstH (vf 7)), .bool (tSndB (vf 7))] ∧ (pf 8) = [] := hR 8 (by decide)
    rw [vE7] at e8
    refine Or.inl ⟨rfl, ?_⟩
    exact zcc (sk 23 (congrArg some e8.1) (zab _)) (by simp only [pE7, vE7, e8.2, fS] <;> rfl) (zco (zbd (zaj rfl)) (fun _ _ h => ⟨h.1.trans (by show _ = ((tFstH (vf 7)) : Value); first | (rw [vE7]; done) | (rw [vE7]; rfl)), h.2⟩))
   ·
    intro vf pf hR
    have e7 : (fun u_ p_ => ∃ (xs : List Int) (cv : Value) (okb : Bool), u_ = .tuple #[cv, .bool okb] ∧ p_ = [rowE 3 1 cv xs.length (xs.map (Value.int .i64))] ∧ (xs.length : Int) ≤ n.cnt ∧ ∀ x ∈ xs, 0 ≤ x ∧ x < n.cnt) (vf 7) (pf 7) := hR 7 (by decide)
    obtain ⟨v8, vE7⟩ : ∃ x, vf 7 = x := ⟨_, rfl⟩
    obtain ⟨p9, pE7⟩ : ∃ x, pf 7 = x := ⟨_, rfl⟩
    have hR10 := e7
    rw [vE7, pE7] at hR10
    obtain ⟨xs, cv, okb, rfl, rfl, hxl, hxr⟩ := hR10
    have e8 : (vf 8) = .tuple #[(tFstH (vf 7)), .bool (tSndB (vf 7))] ∧ (pf 8) = [] := hR 8 (by decide)
    rw [vE7] at e8
    refine Or.inl ⟨rfl, ?_⟩
    exact zcc (sk 23 (congrArg some e8.1) (zab _)) (by simp only [pE7, vE7, e8.2, fS] <;> rfl) (zco (zbd (zaj rfl)) (fun _ _ h => ⟨h.1.trans (by show _ = (.bool (tSndB (vf 7)) : Value); first | (rw [vE7]; done) | (rw [vE7]; rfl)), h.2⟩))
   intro vf pf hR
   have e7 : (fun u_ p_ => ∃ (xs : List Int) (cv : Value) (okb : Bool), u_ = .tuple #[cv, .bool okb] ∧ p_ = [rowE 3 1 cv xs.length (xs.map (Value.int .i64))] ∧ (xs.length : Int) ≤ n.cnt ∧ ∀ x ∈ xs, 0 ≤ x ∧ x < n.cnt) (vf 7) (pf 7) := hR 7 (by decide)
   obtain ⟨v8, vE7⟩ : ∃ x, vf 7 = x := ⟨_, rfl⟩
   obtain ⟨p9, pE7⟩ : ∃ x, pf 7 = x := ⟨_, rfl⟩
   have hR10 := e7
   rw [vE7, pE7] at hR10
   obtain ⟨xs, cv, okb, rfl, rfl, hxl, hxr⟩ := hR10
   have e9 : (vf 9) = (tFstH (vf 7)) ∧ (pf 9) = [] := hR 9 (by decide)
   rw [vE7] at e9
   refine Or.inl ⟨rfl, ?_⟩
   exact zcc (sk 32 (congrArg some e9.1) (zab _)) (by simp only [pE7, vE7, e9.2, fS] <;> rfl) (zco (zbd (zaj rfl)) (fun _ _ h => ⟨h.1.trans (by show _ = ((tFstH (vf 7)) : Value); first | (rw [vE7]; done) | (rw [vE7]; rfl)), h.2⟩))
  intro vf pf hR
  have e7 : (fun u_ p_ => ∃ (xs : List Int) (cv : Value) (okb : Bool), u_ = .tuple #[cv, .bool okb] ∧ p_ = [rowE 3 1 cv xs.length (xs.map (Value.int .i64))] ∧ (xs.length : Int) ≤ n.cnt ∧ ∀ x ∈ xs, 0 ≤ x ∧ x < n.cnt) (vf 7) (pf 7) := hR 7 (by decide)
  obtain ⟨v8, vE7⟩ : ∃ x, vf 7 = x := ⟨_, rfl⟩
  obtain ⟨p9, pE7⟩ : ∃ x, pf 7 = x := ⟨_, rfl⟩
  have hR10 := e7
  rw [vE7, pE7] at hR10
  obtain ⟨xs, cv, okb, rfl, rfl, hxl, hxr⟩ := hR10
  have e10 : (vf 10) = .bool (tSndB (vf 7)) ∧ (pf 10) = [] := hR 10 (by decide)
  rw [vE7] at e10
  have e11 : (vf 11) = (tFstH (vf 7)) ∧ (pf 11) = [] := hR 11 (by decide)
  rw [vE7] at e11
  have q0 := hR 0 (by decide)
  have q1 := hR 1 (by decide)
  have q2 := hR 2 (by decide)
  have q3 := hR 3 (by decide)
  have q4 := hR 4 (by decide)
  have q5 := hR 5 (by decide)
  have q6 := hR 6 (by decide)
  have q8 := hR 8 (by decide)
  have q9 := hR 9 (by decide)
  have q10 := hR 10 (by decide)
  have q11 := hR 11 (by decide)
  refine zce (zbe [5, 4, 3, 2, 1, 0] _ (sk 6 (congrArg some e11.1) (sk 11 rfl (sk 20 rfl (sk 33 (congrArg some e10.1) (zab _))))) rfl) (by simp only [pE7, vE7, q0.2, q1.2, q2.2, q3.2, q4.2, q5.2, q6.2, q8.2, q9.2, q10.2, q11.2, fS] <;> rfl) ?_
  simp only [List.drop_succ_cons, List.drop_zero]
  refine zbb 1 rfl (reQ 2 rfl ?_)
  refine zdu rfl (zej rfl Try.underlying41 (by kernel_rfl) rfl (fun w hm => (zah 0 rfl w hm).one)) ?_
  intro g11
  refine zcr (i := 1) rfl (fun ho12 => ?_)
  refine zcf (i := 4) (z := .slice none 0 0) (bytes := 24) rfl rfl rfl rfl Try.underlying41 (by kernel_rfl) rfl rfl rfl rfl (zah 0 rfl) (zae ho12 zbj) (by first | omega | (simp only [List.length_append, List.length_cons, List.length_nil]; omega)) (zbt rs [(CRow.mk cv xs)]) (zcs crowC rs (CRow.mk cv xs) _ rfl) (fun _ => rfl) ?_
  intro v13
  refine enQ 1 rfl (zcv (reQ 1 rfl (hvQ rfl (vaQ rfl rfl rfl) (enQ 1 rfl ?_))))
  refine zbo 6 [5, 4, 3, 1, 2] rfl rfl (by decide) ?_
  refine zcx 2 rfl ?_
  exact zca (i + 1) (rs ++ [(CRow.mk cv xs)]) v13 [bigE ps, rowE 3 1 cv xs.length (xs.map (Value.int .i64))] ⟨by omega, by rw [List.length_append, List.length_singleton]; omega, fun r hr => (List.mem_append.1 hr).elim (hrs r) (fun h => by rw [List.mem_singleton] at h; subst h; show xs.length ≤ 400; omega), fun w hw => RdsAll.cons (u := CRow.mk cv xs) (hps w (zba hw List.mem_cons_self)) (zbp (zba hw (List.mem_cons_of_mem _ List.mem_cons_self))) (fun q hq => (List.mem_append.1 hq).elim .inr (fun h => .inl (List.mem_singleton.1 h)))⟩ (by omega) (zbe [4, 3, 2, 1, 0] _ (sk 5 (congrArg (fun x => some (Value.int .i64 x)) (by omega)) (zai [11] rfl)) rfl) (pfQ rfl)
 refine ntQ (zaq rfl ?_)
 refine zaz (zdp ?_)
 refine zaf (zax (zbc 2 rfl ?_))
 refine zav (zbo 4 [0, 2] rfl rfl (by decide) ?_)
 exact zdc (post := [rowE 26 1 ov rs.length (rs.flatMap crowC), bigE ps]) rfl rfl (.refl _) ⟨_, rs, rfl, hps, by omega, hrs⟩
noncomputable def pBe (p : Prop) : Bool := @decide p (Classical.propDecidable p)
theorem pBe_yes {p : Prop} (h : p) : pBe p = true := @decide_eq_true p (Classical.propDecidable p) h
theorem pBe_no {p : Prop} (h : ¬ p) : pBe p = false := @decide_eq_false p (Classical.propDecidable p) h
theorem of_pBe {p : Prop} (h : pBe p = true) : p := @of_decide_eq_true p (Classical.propDecidable p) h
def StrictE (xs : List Int) : Prop := ∀ i, i < xs.length → 0 ≤ xs.getD i 0 ∧ (0 < i → xs.getD (i - 1) 0 < xs.getD i 0)
theorem strict_no {xs : List Int} {j : Nat} (hj : j < xs.length) (hb : xs.getD j 0 < 0 ∨ (0 < j ∧ xs.getD j 0 ≤ xs.getD ((j : Int) - 1).toNat 0)) : ¬ StrictE xs := fun h => by
  have h1 := h j hj
  rcases hb with hb | ⟨h0, hb⟩
  · omega
  · have h2 := h1.2 h0
    rw [show ((j : Int) - 1).toNat = j - 1 by omega] at hb
    omega
theorem strict_step {xs : List Int} {j : Nat} (h : ∀ i, i < j → 0 ≤ xs.getD i 0 ∧ (0 < i → xs.getD (i - 1) 0 < xs.getD i 0)) (h0 : 0 ≤ xs.getD j 0) (h1 : (j : Int) ≤ 0 ∨ xs.getD ((j : Int) - 1).toNat 0 < xs.getD j 0) : ∀ i, i < j + 1 → 0 ≤ xs.getD i 0 ∧ (0 < i → xs.getD (i - 1) 0 < xs.getD i 0) := fun i hi => by
  by_cases e : i = j
  · subst e
    refine ⟨h0, fun hp => ?_⟩
    rcases h1 with h1 | h1
    · omega
    · rwa [show ((i : Int) - 1).toNat = i - 1 by omega] at h1
  · exact h i (by omega)
def CLessE (a b : List Int) : Prop := a.length < b.length ∨ a.length = b.length ∧ ∃ i, i < a.length ∧ (∀ j, j < i → a.getD j 0 = b.getD j 0) ∧ a.getD i 0 < b.getD i 0
theorem zgl {a b : List Int} (h : a.length ≠ b.length) : pBe (CLessE a b) = decide ((a.length : Int) < b.length) := by
  by_cases c : a.length < b.length
  · rw [pBe_yes (.inl c), decide_eq_true (by omega)]
  · rw [pBe_no (by rintro (h1 | h1) <;> omega), decide_eq_false (by omega)]
theorem clessE_at {a b : List Int} {i : Nat} (h : a.length = b.length) (hi : i < a.length) (hj : ∀ j, j < i → a.getD j 0 = b.getD j 0) (hne : a.getD i 0 ≠ b.getD i 0) : pBe (CLessE a b) = decide (a.getD i 0 < b.getD i 0) := by
  by_cases c : a.getD i 0 < b.getD i 0
  · rw [pBe_yes (.inr ⟨h, i, hi, hj, c⟩), decide_eq_true c]
  · rw [decide_eq_false c, pBe_no]
    rintro (h1 | ⟨-, k, hk, h1, h2⟩)
    · omega
    · rcases Nat.lt_trichotomy k i with e | e | e
      · have := hj k e; omega
      · subst e; exact c h2
      · exact hne (h1 i e)
theorem clessE_eq {a b : List Int} (h : a.length = b.length) (hj : ∀ j, j < a.length → a.getD j 0 = b.getD j 0) : pBe (CLessE a b) = false := pBe_no (by
  rintro (h1 | ⟨-, k, hk, h1, h2⟩)
  · omega
  · have := hj k hk; omega)
theorem app_mem {rs qs : List CRow} {u e : CRow} (h : ∀ q ∈ qs, q = u ∨ q ∈ rs) (he : e = u ∨ e ∈ rs) : ∀ q ∈ qs ++ [e], q = u ∨ q ∈ rs := fun q hq => by
  rcases List.mem_append.1 hq with hq | hq
  · exact h q hq
  · rw [List.mem_singleton] at hq; subst hq; exact he
theorem four_cons {rs qs : List CRow} {u : CRow} (h : ∀ r ∈ rs, r.xs.length ≤ 4) (hu : u.xs.length ≤ 4) (hq : ∀ q ∈ qs, q = u ∨ q ∈ rs) : ∀ q ∈ qs, q.xs.length ≤ 4 := fun q hm => by
  rcases hq q hm with rfl | e
  · exact hu
  · exact h q e
theorem mul_small {i j b n : Nat} (h : n ≤ i * b + j) (hi : i ≤ 8) (hj : j ≤ 8) (hb : b ≤ 8) : n ≤ 72 := by
  have : i * b ≤ 8 * 8 := Nat.mul_le_mul hi hb
  omega
structure CGrp where
  v : Value
  rs : List CRow
abbrev cgrp0 : CGrp := ⟨.slice none 0 0, []⟩
def cgC (c : CGrp) : List Value := [c.v]
def RdsGrps (w : World) (cs : List CGrp) : Prop := ∀ c ∈ cs, RdsCl w c.v c.rs
theorem RdsGrps.at {w : World} {cs : List CGrp} (h : RdsGrps w cs) {k : Nat} (hk : k < cs.length) : RdsCl w (cs.getD k cgrp0).v (cs.getD k cgrp0).rs := h _ (zcj hk)
theorem RdsGrps.app {w : World} {cs : List CGrp} (h : RdsGrps w cs) {e : CGrp} (he : RdsCl w e.v e.rs) : RdsGrps w (cs ++ [e]) := fun c hc => by
  rcases List.mem_append.1 hc with hc | hc
  · exact h c hc
  · rw [List.mem_singleton] at hc; subst hc; exact he
structure GrpOk (rs : List CRow) : Prop where
  pos : 1 ≤ rs.length
  len : rs.length ≤ 8
  four : ∀ r ∈ rs, r.xs.length ≤ 4
def GrpsOk (cs : List CGrp) : Prop := ∀ c ∈ cs, GrpOk c.rs
theorem GrpsOk.at {cs : List CGrp} (h : GrpsOk cs) {k : Nat} (hk : k < cs.length) : GrpOk (cs.getD k cgrp0).rs := h _ (zcj hk)
theorem GrpsOk.app {cs : List CGrp} (h : GrpsOk cs) {e : CGrp} (he : GrpOk e.rs) : GrpsOk (cs ++ [e]) := fun c hc => by
  rcases List.mem_append.1 hc with hc | hc
  · exact h c hc
  · rw [List.mem_singleton] at hc; subst hc; exact he
theorem GrpOk.one {v : Value} {xs : List Int} (h : xs.length ≤ 4) : GrpOk [CRow.mk v xs] := ⟨by simp, by simp, fun r hr => by rw [List.mem_singleton] at hr; subst hr; exact h⟩
theorem GrpOk.more {us : List CRow} {v : Value} {x : Int} (h : us.length ≤ 7) (h4 : ∀ r ∈ us, r.xs.length ≤ 4) : GrpOk (us ++ [CRow.mk v [x]]) := ⟨by simp, by simp; omega, fun r hr => by
  rcases List.mem_append.1 hr with hr | hr
  · exact h4 r hr
  · rw [List.mem_singleton] at hr; subst hr; simp⟩
theorem hasBE_mem {xs : List Int} {x : Int} : hasB xs x = true ↔ x ∈ xs := by unfold hasB; exact List.contains_iff_mem
theorem hasBE_at {xs : List Int} {x : Int} {j : Nat} (hj : j < xs.length) (h : xs.getD j 0 = x) : hasB xs x = true := hasBE_mem.2 (by rw [← h]; exact zch hj)
theorem hasBE_no {xs : List Int} {x : Int} (h : ∀ i, i < xs.length → xs.getD i 0 ≠ x) : hasB xs x = false := by
  cases hb : hasB xs x with
  | false => rfl
  | true =>
    obtain ⟨i, hi, e⟩ := List.mem_iff_getElem.1 (hasBE_mem.1 hb)
    have := h i hi
    rw [List.getD_eq_getElem?_getD, List.getElem?_eq_getElem hi] at this
    exact absurd e this
theorem zes (xs : List Int) (x : Int) (v : Value) (w : World) (hv : RdsW w v 1 xs.length (xs.map (Value.int .i64))) (hlen : xs.length ≤ 1000000000) :
   Calls Try.prog 94 #[v, .int .i64 x] w (Ans w (.bool (hasB xs x))) := by
 refine zbf (N := 18) (args := [v, .int .i64 x]) Try.func94 rfl rfl (zbc 1 rfl (zac (zbc 1 rfl ?_)))
 refine zaw ?_
 refine lkQ1 (α := Nat) [0, 1, 4] rfl (fun j => []) (fun j => [(5, .int .i64 (j : Int))]) (fun j => j ≤ xs.length ∧ ∀ i, i < j → xs.getD i 0 ≠ x) (fun j => xs.length - j) 0 ⟨by omega, fun i hi => absurd hi (by omega)⟩ (saQ rfl) (.slnil) ?_
 intro j hi1
 obtain ⟨hk1, hk2⟩ := hi1
 refine zac (zac (reQ 2 rfl (hvQ rfl (lnQ rfl rfl rfl (zaa hv)) ?_)))
 refine zbh rfl rfl rfl rfl rfl rfl (fun h2 => ?_) (fun h2 => ?_)
 ·
  refine ntQ (zan rfl (zcp (sbQ (zac (reQ 2 rfl (hvQ rfl (riQ 1 rfl rfl rfl rfl (zaa hv)) (hvQ rfl (liQ rfl rfl rfl (zaa hv)) (zao 1 rfl ?_))))))))
  refine zcu rfl rfl rfl rfl rfl rfl (fun h3 => ?_) (fun h3 => ?_)
  ·
   refine ntQ (zan rfl (zbc 1 rfl ?_))
   refine zav (zak ?_)
   refine zfs ?_
   refine zak (zap ?_)
   exact zbg rfl rfl (congrArg _ (hasBE_at (j := j) (by omega) (by assumption)).symm)
  refine ntQ (fsQ rfl (zcv (reQ 1 rfl (hvQ rfl (vaQ rfl rfl rfl) (enQ 1 rfl ?_)))))
  exact zck (j + 1) ⟨by omega, fun i hi => by by_cases hij : i = j; (subst hij; assumption); exact hk2 i (by omega)⟩ (by omega) (saQ rfl) (.slnil)
 refine ntQ (zaq rfl ?_)
 refine zaz (zdp ?_)
 refine zaf (zax (zbc 1 rfl ?_))
 exact zav (zbg rfl rfl (congrArg _ (hasBE_no (fun i hi => hk2 i (by omega))).symm))
theorem l13Strict_ans (xs : List Int) (v : Value) (w : World) (hv : RdsW w v 1 xs.length (xs.map (Value.int .i64))) (hlen : xs.length ≤ 1000000) :
   Calls Try.prog 108 #[v] w (Ans w (.bool (pBe (StrictE xs)))) := by
 refine zbf (N := 31) (args := [v]) Try.func108 rfl rfl (zbc 1 rfl (zac (zbc 1 rfl ?_)))
 refine zaw ?_
 refine lkQ1 (α := Nat) [0, 2] rfl (fun j => []) (fun j => [(3, .int .i64 (j : Int))]) (fun j => j ≤ xs.length ∧ ∀ i, i < j → 0 ≤ xs.getD i 0 ∧ (0 < i → xs.getD (i - 1) 0 < xs.getD i 0)) (fun j => xs.length - j) 0 ⟨by omega, fun i hi => absurd hi (by omega)⟩ (saQ rfl) (.slnil) ?_
 intro j hi1
 obtain ⟨hk1, hk2⟩ := hi1
 refine zac (zac (reQ 2 rfl (hvQ rfl (lnQ rfl rfl rfl (zaa hv)) ?_)))
 refine zbh rfl rfl rfl rfl rfl rfl (fun h2 => ?_) (fun h2 => ?_)
 ·
  refine ntQ (zan rfl (zcp (sbQ (zac ?_))))
  rcases Bool.eq_false_or_eq_true (decide (xs.getD j 0 < 0)) with hb3 | hb3
  ·
   have hb3p : xs.getD j 0 < 0 := of_decide_eq_true hb3
   refine zbk 21 [[], [], [0, 1], [2], [3], [4], [5], [5], [5], [8], [8], [8], [8], [8], [8], [8], [8], [8], [8], [5], [5, 19]] [10, 11, 12, 13, 14, 15, 16, 17, 18, 19, 20, 21, 22, 23, 24, 25, 26, 27, 28, 29, 30] [v, .int .i64 (j : Int), elP v (((j : Int)).toNat * 1), .int .i64 (xs.getD j 0), .bool true, .bool true, undef, undef, undef, undef, undef, undef, undef, undef, undef, undef, undef, undef, undef, undef, .bool true] (by kernel_rfl) rfl ?_ ?_
   ·
    exact ⟨iaQ rfl (zaj rfl) rfl, iaQ rfl (zaj rfl) rfl, iaQ rfl (riQ 1 rfl rfl rfl rfl (zaa hv)) rfl, iaQ rfl (liQ rfl rfl rfl (zaa hv)) rfl, .inl ⟨rfl, zcz (zcd rfl rfl rfl rfl) hb3⟩, iaQ rfl (zaj rfl) rfl, .inr ⟨rfl, rfl⟩, .inr ⟨rfl, rfl⟩, .inr ⟨rfl, rfl⟩, .inr ⟨rfl, rfl⟩, .inr ⟨rfl, rfl⟩, .inr ⟨rfl, rfl⟩, .inr ⟨rfl, rfl⟩, .inr ⟨rfl, rfl⟩, .inr ⟨rfl, rfl⟩, .inr ⟨rfl, rfl⟩, .inr ⟨rfl, rfl⟩, .inr ⟨rfl, rfl⟩, .inr ⟨rfl, rfl⟩, .inr ⟨rfl, rfl⟩, iaQ rfl (zaj rfl) rfl, trivial⟩
   simp only [List.drop_succ_cons, List.drop_zero]
   refine ntQ (zan rfl (zbc 1 rfl ?_))
   refine zav (zak ?_)
   refine zfs ?_
   refine zak (zap ?_)
   exact zbg rfl rfl (congrArg _ (pBe_no (strict_no (j := j) (by omega) (by first | exact .inl (by omega) | exact .inr ⟨by omega, by omega⟩))).symm)
  have hb3p : ¬ (xs.getD j 0 < 0) := of_decide_eq_false hb3
  rcases Bool.eq_false_or_eq_true (decide (0 < (j : Int))) with hb4 | hb4
  ·
   have hb4p : 0 < (j : Int) := of_decide_eq_true hb4
   rcases Bool.eq_false_or_eq_true (decide (xs.getD j 0 ≤ xs.getD (((j : Int) - 1).toNat) 0)) with hb5 | hb5
   ·
    have hb5p : xs.getD j 0 ≤ xs.getD (((j : Int) - 1).toNat) 0 := of_decide_eq_true hb5
    refine zbk 21 [[], [], [0, 1], [2], [3], [4], [5], [5, 6], [5, 7], [8], [8], [8, 9, 10], [8, 11], [8], [8], [8, 14], [8, 13, 15], [8, 16], [8, 12, 17], [5, 8, 18], [5, 19]] [10, 11, 12, 13, 14, 15, 16, 17, 18, 19, 20, 21, 22, 23, 24, 25, 26, 27, 28, 29, 30] [v, .int .i64 (j : Int), elP v (((j : Int)).toNat * 1), .int .i64 (xs.getD j 0), .bool false, .bool false, .int .i64 (j : Int), .bool true, .bool true, v, .int .i64 (j : Int), elP v (((j : Int)).toNat * 1), .int .i64 (xs.getD j 0), v, .int .i64 (j : Int), .int .i64 ((j : Int) - 1), elP v (((j : Int) - 1).toNat * 1), .int .i64 (xs.getD (((j : Int) - 1).toNat) 0), .bool true, .bool true, .bool true] (by kernel_rfl) rfl ?_ ?_
    ·
     exact ⟨iaQ rfl (zaj rfl) rfl, iaQ rfl (zaj rfl) rfl, iaQ rfl (riQ 1 rfl rfl rfl rfl (zaa hv)) rfl, iaQ rfl (liQ rfl rfl rfl (zaa hv)) rfl, .inl ⟨rfl, zcz (zcd rfl rfl rfl rfl) hb3⟩, iaQ rfl (zaj rfl) rfl, iaQ rfl (zaj rfl) rfl, .inl ⟨rfl, zcz (zcd rfl rfl rfl rfl) hb4⟩, iaQ rfl (zaj rfl) rfl, iaQ rfl (zaj rfl) rfl, iaQ rfl (zaj rfl) rfl, iaQ rfl (riQ 1 rfl rfl rfl rfl (zaa hv)) rfl, iaQ rfl (liQ rfl rfl rfl (zaa hv)) rfl, iaQ rfl (zaj rfl) rfl, iaQ rfl (zaj rfl) rfl, iaQ rfl (vsQ rfl rfl rfl) rfl, iaQ rfl (riQ 1 rfl rfl rfl rfl (zaa hv)) rfl, iaQ rfl (lzQ rfl rfl rfl (zaa hv)) rfl, .inl ⟨rfl, zcz (zcd rfl rfl rfl rfl) hb5⟩, iaQ rfl (zaj rfl) rfl, iaQ rfl (zaj rfl) rfl, trivial⟩
    simp only [List.drop_succ_cons, List.drop_zero]
    refine ntQ (zan rfl (zbc 1 rfl ?_))
    refine zav (zak ?_)
    refine zfs ?_
    refine zak (zap ?_)
    exact zbg rfl rfl (congrArg _ (pBe_no (strict_no (j := j) (by omega) (by first | exact .inl (by omega) | exact .inr ⟨by omega, by omega⟩))).symm)
   have hb5p : ¬ (xs.getD j 0 ≤ xs.getD (((j : Int) - 1).toNat) 0) := of_decide_eq_false hb5
   refine zbk 21 [[], [], [0, 1], [2], [3], [4], [5], [5, 6], [5, 7], [8], [8], [8, 9, 10], [8, 11], [8], [8], [8, 14], [8, 13, 15], [8, 16], [8, 12, 17], [5, 8, 18], [5, 19]] [10, 11, 12, 13, 14, 15, 16, 17, 18, 19, 20, 21, 22, 23, 24, 25, 26, 27, 28, 29, 30] [v, .int .i64 (j : Int), elP v (((j : Int)).toNat * 1), .int .i64 (xs.getD j 0), .bool false, .bool false, .int .i64 (j : Int), .bool true, .bool true, v, .int .i64 (j : Int), elP v (((j : Int)).toNat * 1), .int .i64 (xs.getD j 0), v, .int .i64 (j : Int), .int .i64 ((j : Int) - 1), elP v (((j : Int) - 1).toNat * 1), .int .i64 (xs.getD (((j : Int) - 1).toNat) 0), .bool false, .bool false, .bool false] (by kernel_rfl) rfl ?_ ?_
   ·
    exact ⟨iaQ rfl (zaj rfl) rfl, iaQ rfl (zaj rfl) rfl, iaQ rfl (riQ 1 rfl rfl rfl rfl (zaa hv)) rfl, iaQ rfl (liQ rfl rfl rfl (zaa hv)) rfl, .inl ⟨rfl, zcz (zcd rfl rfl rfl rfl) hb3⟩, iaQ rfl (zaj rfl) rfl, iaQ rfl (zaj rfl) rfl, .inl ⟨rfl, zcz (zcd rfl rfl rfl rfl) hb4⟩, iaQ rfl (zaj rfl) rfl, iaQ rfl (zaj rfl) rfl, iaQ rfl (zaj rfl) rfl, iaQ rfl (riQ 1 rfl rfl rfl rfl (zaa hv)) rfl, iaQ rfl (liQ rfl rfl rfl (zaa hv)) rfl, iaQ rfl (zaj rfl) rfl, iaQ rfl (zaj rfl) rfl, iaQ rfl (vsQ rfl rfl rfl) rfl, iaQ rfl (riQ 1 rfl rfl rfl rfl (zaa hv)) rfl, iaQ rfl (lzQ rfl rfl rfl (zaa hv)) rfl, .inl ⟨rfl, zcz (zcd rfl rfl rfl rfl) hb5⟩, iaQ rfl (zaj rfl) rfl, iaQ rfl (zaj rfl) rfl, trivial⟩
   simp only [List.drop_succ_cons, List.drop_zero]
   refine ntQ (fsQ rfl (zcv (reQ 1 rfl (hvQ rfl (vaQ rfl rfl rfl) (enQ 1 rfl ?_)))))
   exact zck (j + 1) ⟨by omega, strict_step hk2 (by omega) (by first | exact .inl (by omega) | exact .inr (by omega))⟩ (by omega) (saQ rfl) (.slnil)
  have hb4p : ¬ (0 < (j : Int)) := of_decide_eq_false hb4
  refine zbk 21 [[], [], [0, 1], [2], [3], [4], [5], [5, 6], [5, 7], [8], [8], [8], [8], [8], [8], [8], [8], [8], [8], [5, 8, 18], [5, 19]] [10, 11, 12, 13, 14, 15, 16, 17, 18, 19, 20, 21, 22, 23, 24, 25, 26, 27, 28, 29, 30] [v, .int .i64 (j : Int), elP v (((j : Int)).toNat * 1), .int .i64 (xs.getD j 0), .bool false, .bool false, .int .i64 (j : Int), .bool false, .bool false, undef, undef, undef, undef, undef, undef, undef, undef, undef, undef, .bool false, .bool false] (by kernel_rfl) rfl ?_ ?_
  ·
   exact ⟨iaQ rfl (zaj rfl) rfl, iaQ rfl (zaj rfl) rfl, iaQ rfl (riQ 1 rfl rfl rfl rfl (zaa hv)) rfl, iaQ rfl (liQ rfl rfl rfl (zaa hv)) rfl, .inl ⟨rfl, zcz (zcd rfl rfl rfl rfl) hb3⟩, iaQ rfl (zaj rfl) rfl, iaQ rfl (zaj rfl) rfl, .inl ⟨rfl, zcz (zcd rfl rfl rfl rfl) hb4⟩, iaQ rfl (zaj rfl) rfl, .inr ⟨rfl, rfl⟩, .inr ⟨rfl, rfl⟩, .inr ⟨rfl, rfl⟩, .inr ⟨rfl, rfl⟩, .inr ⟨rfl, rfl⟩, .inr ⟨rfl, rfl⟩, .inr ⟨rfl, rfl⟩, .inr ⟨rfl, rfl⟩, .inr ⟨rfl, rfl⟩, .inr ⟨rfl, rfl⟩, iaQ rfl (zaj rfl) rfl, iaQ rfl (zaj rfl) rfl, trivial⟩
  simp only [List.drop_succ_cons, List.drop_zero]
  refine ntQ (fsQ rfl (zcv (reQ 1 rfl (hvQ rfl (vaQ rfl rfl rfl) (enQ 1 rfl ?_)))))
  exact zck (j + 1) ⟨by omega, strict_step hk2 (by omega) (by first | exact .inl (by omega) | exact .inr (by omega))⟩ (by omega) (saQ rfl) (.slnil)
 refine ntQ (zaq rfl ?_)
 refine zaz (zdp ?_)
 refine zaf (zax (zbc 1 rfl ?_))
 exact zav (zbg rfl rfl (congrArg _ (pBe_yes (fun i hi => hk2 i (by omega))).symm))
theorem CutLessE_ans (xs ys : List Int) (u v : Value) (w : World) (hu : RdsW w u 1 xs.length (xs.map (Value.int .i64))) (hv : RdsW w v 1 ys.length (ys.map (Value.int .i64))) (hlen : xs.length ≤ 1000000) :
   Calls Try.prog 109 #[u, v] w (Ans w (.bool (pBe (CLessE xs ys)))) := by
 refine zbf (N := 40) (args := [u, v]) Try.func109 rfl rfl (zbc 1 rfl (zac (zac (reQ 1 rfl (hvQ rfl (lnQ rfl rfl rfl (zaa hu)) (zao 1 rfl (hvQ rfl (lnQ rfl rfl rfl (zaa hv)) ?_)))))))
 refine hl_neq rfl rfl rfl rfl rfl rfl (fun h1 => ?_) (fun h1 => ?_)
 ·
  refine ntQ (zan rfl (zac (reQ 1 rfl (hvQ rfl (lnQ rfl rfl rfl (zaa hu)) (zao 1 rfl (hvQ rfl (lnQ rfl rfl rfl (zaa hv)) ?_))))))
  refine zbh rfl rfl rfl rfl rfl rfl (fun h2 => ?_) (fun h2 => ?_)
  ·
   refine zbb 1 rfl ?_
   refine zav (zap ?_)
   exact zbg rfl rfl (congrArg Value.bool (by first | exact (clessE_eq (by omega) (fun j2 hj2 => hk2 j2 (by omega))).symm | (rw [zgl (by omega)]; first | exact (decide_eq_true (by omega)).symm | exact (decide_eq_false (by omega)).symm) | (rw [clessE_at (i := j) (by omega) (by omega) hk2 (by omega)]; first | exact (decide_eq_true (by omega)).symm | exact (decide_eq_false (by omega)).symm)))
  refine zbb 1 rfl ?_
  refine zav (zap ?_)
  exact zbg rfl rfl (congrArg Value.bool (by first | exact (clessE_eq (by omega) (fun j2 hj2 => hk2 j2 (by omega))).symm | (rw [zgl (by omega)]; first | exact (decide_eq_true (by omega)).symm | exact (decide_eq_false (by omega)).symm) | (rw [clessE_at (i := j) (by omega) (by omega) hk2 (by omega)]; first | exact (decide_eq_true (by omega)).symm | exact (decide_eq_false (by omega)).symm)))
 refine ntQ (zaq rfl (zcp (zac (zbc 1 rfl (zaw ?_)))))
 refine lkQ1 (α := Nat) [0, 1, 4, 10] rfl (fun j => []) (fun j => [(5, .int .i64 (j : Int))]) (fun j => j ≤ xs.length ∧ ∀ i, i < j → xs.getD i 0 = ys.getD i 0) (fun j => xs.length - j) 0 ⟨by omega, fun i hi => absurd hi (by omega)⟩ (saQ rfl) (.slnil) ?_
 intro j hi3
 obtain ⟨hk1, hk2⟩ := hi3
 refine zac (zac (reQ 2 rfl (hvQ rfl (lnQ rfl rfl rfl (zaa hu)) ?_)))
 refine zbh rfl rfl rfl rfl rfl rfl (fun h4 => ?_) (fun h4 => ?_)
 ·
  refine ntQ (zan rfl (zcp (sbQ (zac ?_))))
  rcases Bool.eq_false_or_eq_true ((xs.getD j 0) != (ys.getD j 0)) with hb5 | hb5
  ·
   have hb5p : xs.getD j 0 ≠ ys.getD j 0 := bne_iff_ne.1 hb5
   refine zbk 9 [[], [], [0, 1], [2], [], [], [4, 5], [6], [3, 7]] [22, 23, 24, 25, 26, 27, 28, 29, 30] [u, .int .i64 (j : Int), elP u (((j : Int)).toNat * 1), .int .i64 (xs.getD j 0), v, .int .i64 (j : Int), elP v (((j : Int)).toNat * 1), .int .i64 (ys.getD j 0), .bool true] (by kernel_rfl) rfl ?_ ?_
   ·
    exact ⟨iaQ rfl (zaj rfl) rfl, iaQ rfl (zaj rfl) rfl, iaQ rfl (riQ 1 rfl rfl rfl rfl (zaa hu)) rfl, iaQ rfl (liQ rfl rfl rfl (zaa hu)) rfl, iaQ rfl (zaj rfl) rfl, iaQ rfl (zaj rfl) rfl, iaQ rfl (riQ 1 rfl rfl rfl rfl (zaa hv)) rfl, iaQ rfl (liQ rfl rfl rfl (zaa hv)) rfl, .inl ⟨rfl, zcz (zcd rfl rfl rfl rfl) hb5⟩, trivial⟩
   simp only [List.drop_succ_cons, List.drop_zero]
   refine ntQ (zan rfl (zac ?_))
   rcases Bool.eq_false_or_eq_true (decide (xs.getD j 0 < ys.getD j 0)) with hb6 | hb6
   ·
    have hb6p : xs.getD j 0 < ys.getD j 0 := of_decide_eq_true hb6
    refine zbk 9 [[], [], [0, 1], [2], [], [], [4, 5], [6], [3, 7]] [31, 32, 33, 34, 35, 36, 37, 38, 39] [u, .int .i64 (j : Int), elP u (((j : Int)).toNat * 1), .int .i64 (xs.getD j 0), v, .int .i64 (j : Int), elP v (((j : Int)).toNat * 1), .int .i64 (ys.getD j 0), .bool true] (by kernel_rfl) rfl ?_ ?_
    ·
     exact ⟨iaQ rfl (zaj rfl) rfl, iaQ rfl (zaj rfl) rfl, iaQ rfl (riQ 1 rfl rfl rfl rfl (zaa hu)) rfl, iaQ rfl (liQ rfl rfl rfl (zaa hu)) rfl, iaQ rfl (zaj rfl) rfl, iaQ rfl (zaj rfl) rfl, iaQ rfl (riQ 1 rfl rfl rfl rfl (zaa hv)) rfl, iaQ rfl (liQ rfl rfl rfl (zaa hv)) rfl, .inl ⟨rfl, zcz (zcd rfl rfl rfl rfl) hb6⟩, trivial⟩
    simp only [List.drop_succ_cons, List.drop_zero]
    refine zbb 1 rfl ?_
    refine zav (zak ?_)
    refine zfs ?_
    refine zak (zap ?_)
    exact zbg rfl rfl (congrArg Value.bool (by first | exact (clessE_eq (by omega) (fun j2 hj2 => hk2 j2 (by omega))).symm | (rw [zgl (by omega)]; first | exact (decide_eq_true (by omega)).symm | exact (decide_eq_false (by omega)).symm) | (rw [clessE_at (i := j) (by omega) (by omega) hk2 (by omega)]; first | exact (decide_eq_true (by omega)).symm | exact (decide_eq_false (by omega)).symm)))
   have hb6p : ¬ (xs.getD j 0 < ys.getD j 0) := of_decide_eq_false hb6
   refine zbk 9 [[], [], [0, 1], [2], [], [], [4, 5], [6], [3, 7]] [31, 32, 33, 34, 35, 36, 37, 38, 39] [u, .int .i64 (j : Int), elP u (((j : Int)).toNat * 1), .int .i64 (xs.getD j 0), v, .int .i64 (j : Int), elP v (((j : Int)).toNat * 1), .int .i64 (ys.getD j 0), .bool false] (by kernel_rfl) rfl ?_ ?_
   ·
    exact ⟨iaQ rfl (zaj rfl) rfl, iaQ rfl (zaj rfl) rfl, iaQ rfl (riQ 1 rfl rfl rfl rfl (zaa hu)) rfl, iaQ rfl (liQ rfl rfl rfl (zaa hu)) rfl, iaQ rfl (zaj rfl) rfl, iaQ rfl (zaj rfl) rfl, iaQ rfl (riQ 1 rfl rfl rfl rfl (zaa hv)) rfl, iaQ rfl (liQ rfl rfl rfl (zaa hv)) rfl, .inl ⟨rfl, zcz (zcd rfl rfl rfl rfl) hb6⟩, trivial⟩
   simp only [List.drop_succ_cons, List.drop_zero]
   refine zbb 1 rfl ?_
   refine zav (zak ?_)
   refine zfs ?_
   refine zak (zap ?_)
   exact zbg rfl rfl (congrArg Value.bool (by first | exact (clessE_eq (by omega) (fun j2 hj2 => hk2 j2 (by omega))).symm | (rw [zgl (by omega)]; first | exact (decide_eq_true (by omega)).symm | exact (decide_eq_false (by omega)).symm) | (rw [clessE_at (i := j) (by omega) (by omega) hk2 (by omega)]; first | exact (decide_eq_true (by omega)).symm | exact (decide_eq_false (by omega)).symm)))
  have hb5p : xs.getD j 0 = ys.getD j 0 := (bne_eq_false_iff_eq.1 hb5)
  refine zbk 9 [[], [], [0, 1], [2], [], [], [4, 5], [6], [3, 7]] [22, 23, 24, 25, 26, 27, 28, 29, 30] [u, .int .i64 (j : Int), elP u (((j : Int)).toNat * 1), .int .i64 (xs.getD j 0), v, .int .i64 (j : Int), elP v (((j : Int)).toNat * 1), .int .i64 (ys.getD j 0), .bool false] (by kernel_rfl) rfl ?_ ?_
  ·
   exact ⟨iaQ rfl (zaj rfl) rfl, iaQ rfl (zaj rfl) rfl, iaQ rfl (riQ 1 rfl rfl rfl rfl (zaa hu)) rfl, iaQ rfl (liQ rfl rfl rfl (zaa hu)) rfl, iaQ rfl (zaj rfl) rfl, iaQ rfl (zaj rfl) rfl, iaQ rfl (riQ 1 rfl rfl rfl rfl (zaa hv)) rfl, iaQ rfl (liQ rfl rfl rfl (zaa hv)) rfl, .inl ⟨rfl, zcz (zcd rfl rfl rfl rfl) hb5⟩, trivial⟩
  simp only [List.drop_succ_cons, List.drop_zero]
  refine ntQ (fsQ rfl (zcv (reQ 1 rfl (hvQ rfl (vaQ rfl rfl rfl) (enQ 1 rfl ?_)))))
  exact zck (j + 1) ⟨by omega, fun i hi => by by_cases hij : i = j; (subst hij; assumption); exact hk2 i (by omega)⟩ (by omega) (saQ rfl) (.slnil)
 refine ntQ (zaq rfl ?_)
 refine zaz (zdp ?_)
 refine zaf (zax (zbc 1 rfl ?_))
 exact zav (zbg rfl rfl (congrArg Value.bool (by first | exact (clessE_eq (by omega) (fun j2 hj2 => hk2 j2 (by omega))).symm | (rw [zgl (by omega)]; first | exact (decide_eq_true (by omega)).symm | exact (decide_eq_false (by omega)).symm) | (rw [clessE_at (i := j) (by omega) (by omega) hk2 (by omega)]; first | exact (decide_eq_true (by omega)).symm | exact (decide_eq_false (by omega)).symm))))
theorem l13Within_ans (xs ys : List Int) (u v : Value) (w : World) (hu : RdsW w u 1 xs.length (xs.map (Value.int .i64))) (hv : RdsW w v 1 ys.length (ys.map (Value.int .i64))) (hlen : xs.length ≤ 1000000 ∧ ys.length ≤ 1000000) :
   Calls Try.prog 107 #[u, v] w (Ans w (.bool (xs.all (hasB ys)))) := by
 refine zbf (N := 19) (args := [u, v]) Try.func107 rfl rfl (zbc 1 rfl (zac (zbc 1 rfl ?_)))
 refine zaw ?_
 refine lkQ1 (α := Nat) [0, 1, 4] rfl (fun j => []) (fun j => [(5, .int .i64 (j : Int))]) (fun j => j ≤ xs.length ∧ ∀ i, i < j → hasB ys (xs.getD i 0) = true) (fun j => xs.length - j) 0 ⟨by omega, fun i hi => absurd hi (by omega)⟩ (saQ rfl) (.slnil) ?_
 intro j hi1
 obtain ⟨hk1, hk2⟩ := hi1
 refine zac (zac (reQ 2 rfl (hvQ rfl (lnQ rfl rfl rfl (zaa hu)) ?_)))
 refine zbh rfl rfl rfl rfl rfl rfl (fun h2 => ?_) (fun h2 => ?_)
 ·
  refine ntQ (zan rfl (zcp (sbQ (zac (reQ 3 rfl (hvQ rfl (riQ 1 rfl rfl rfl rfl (zaa hu)) (hvQ rfl (liQ rfl rfl rfl (zaa hu)) ?_)))))))
  refine zdm rfl (zal rfl rfl (fun w hm => zas (zes ys (xs.getD j 0) _ w ((zaa hv) w hm) (by omega)))) (zbl (fun h3 => ?_) (fun h3 => ?_))
  ·
   refine zbb 1 rfl (fsQ rfl (zcv (reQ 1 rfl (hvQ rfl (vaQ rfl rfl rfl) (enQ 1 rfl ?_)))))
   exact zck (j + 1) ⟨by omega, fun i hi => by by_cases hij : i = j; (subst hij; assumption); exact hk2 i (by omega)⟩ (by omega) (saQ rfl) (.slnil)
  refine zbb 1 rfl (zan rfl (zbc 1 rfl ?_))
  refine zav (zak ?_)
  refine zfs ?_
  refine zak (zap ?_)
  exact zbg rfl rfl (congrArg _ (Bool.eq_false_iff.2 (fun h => by have h2 := List.all_eq_true.1 h _ (zcj (es := xs) (i := j) (d := (0 : Int)) (by omega)); rw [show hasB ys (xs.getD j 0) = false by assumption] at h2; cases h2)).symm)
 refine ntQ (zaq rfl ?_)
 refine zaz (zdp ?_)
 refine zaf (zax (zbc 1 rfl ?_))
 exact zav (zbg rfl rfl (congrArg _ (List.all_eq_true.2 (fun x hx => by obtain ⟨i, hi, rfl⟩ := List.mem_iff_getElem.1 hx; have := hk2 i (by omega); rwa [List.getD_eq_getElem?_getD, List.getElem?_eq_getElem hi] at this)).symm))
end Go.Proofs.Ytakjndmlanpadaa
