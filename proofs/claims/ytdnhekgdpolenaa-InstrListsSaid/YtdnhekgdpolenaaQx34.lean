/- Functions of the seat and their walks, written by a program of this session. -/
import Derived.Test.YtdnhekgdpolenaaQx0
import Derived.Test.YtdnhekgdpolenaaQx20
namespace Go.Proofs.Ytdnhekgdpolenaa.Q
open Go.RowKit Go.Proofs.YtdnhekgdpolenaaW.PrintWords Go.Proofs.YtdnhekgdpolenaaW.PrintLast Go.Proofs.YtdnhekgdpolenaaW.PrintMore
attribute [local go_sem] max2_int min2_int max_two min_two max_three min_three max_four min_four   -- for this text's walks alone
set_option linter.unusedVariables false
set_option linter.unusedSimpArgs false

/-! ### replevinref16_EncodeAll: function 40 -/
def replevinref16_EncodeAll.l0 : Nat → List (S23) → List Int → Int → Option (List Int × Int × Int)
  | 0, _, _, _ => none
  | k + 1, x0, x5, x6 => if x6 < (x0.length : Int) then (if 0 ≤ x6 then ((replevinref16_Encode.f k ((rd_T23 x0 x6).f0) ((rd_T23 x0 x6).f1) ((rd_T23 x0 x6).f2) ((rd_T23 x0 x6).f3)).bind fun bt387 => (if bt387.2.2.2.2 = 0 then ((some (([bt387.1, bt387.2.1, bt387.2.2.1, bt387.2.2.2.1] : List Int) : List Int)).bind fun y393 => (if x5.length + y393.length < 140737488355328 then (replevinref16_EncodeAll.l0 k x0 (x5 ++ y393) (wrap64 (x6 + 1))) else (none))) else (some (([] : List Int), x6, bt387.2.2.2.2)))) else (none)) else (some (x5, 0, 0))
def replevinref16_EncodeAll.f (k : Nat) (l0 : List (S23)) : Option (List Int × Int × Int) := replevinref16_EncodeAll.l0 k l0 ([] : List Int) 0
theorem replevinref16_EncodeAll.mono_l : ∀ k, (∀ y0 y1 y2, LeO (replevinref16_EncodeAll.l0 k y0 y1 y2) (replevinref16_EncodeAll.l0 (k + 1) y0 y1 y2))
  | 0 => fun _ _ _ r h => by simp [replevinref16_EncodeAll.l0] at h
  | k + 1 => by
    have ih0 := replevinref16_EncodeAll.mono_l k
    · intro y0 y1 y2
      unfold replevinref16_EncodeAll.l0
      repeat' first
      | (with_reducible exact ih0 _ _ _)
      | (with_reducible exact replevinref16_Encode.mono _ _ _ _ _)
      | (with_reducible exact LeO.refl _)
      | (with_reducible exact LeO.none _)
      | (with_reducible refine LeO.ite ?_ ?_)
      | (with_reducible refine LeO.bind ?_ (fun _ => ?_))
      | exact ih0 _ _ _
      | exact replevinref16_Encode.mono _ _ _ _ _
      | exact LeO.none _
      | refine LeO.ite ?_ ?_
      | refine LeO.bind ?_ (fun _ => ?_)
theorem replevinref16_EncodeAll.mono : ∀ a0 k, LeO (replevinref16_EncodeAll.f k a0) (replevinref16_EncodeAll.f (k + 1) a0) := by
  intro a0 k
  have ih0 := replevinref16_EncodeAll.mono_l k
  unfold replevinref16_EncodeAll.f
  repeat' first
      | (with_reducible exact ih0 _ _ _)
      | (with_reducible exact replevinref16_Encode.mono _ _ _ _ _)
      | (with_reducible exact LeO.refl _)
      | (with_reducible exact LeO.none _)
      | (with_reducible refine LeO.ite ?_ ?_)
      | (with_reducible refine LeO.bind ?_ (fun _ => ?_))
      | exact ih0 _ _ _
      | exact replevinref16_Encode.mono _ _ _ _ _
      | exact LeO.none _
      | refine LeO.ite ?_ ?_
      | refine LeO.bind ?_ (fun _ => ?_)
set_option maxHeartbeats 8000000 in
set_option maxRecDepth 100000 in
theorem replevinref16_EncodeAll.calls (k : Nat) (A0 : Option Addr) (c0 : Nat) (l0 : List (S23)) (r1 : List Int) (r2 : Int) (r3 : Int) (w : World) (hr0 : Kd.C k23 w A0 l0.length l0) (hc0 : l0.length ≤ c0) (h : replevinref16_EncodeAll.f k l0 = some (r1, r2, r3)) :
    Calls Try.prog 40 #[.slice A0 l0.length c0] w fun e w' => ∃ v0_ : Value, e = .returned (.tuple #[v0_, .int .i64 r2, .int .i64 r3]) ∧ Kd.R (Kd.int .u8) 5 w' w.heap.size (fun _ => True) v0_ r1 ∧ Below w.heap.size w w' := by
  have hu23 := Try.underlying23
  have hu41 := Try.underlying41
  have HR0 := Aside0.mk hr0
  have HC0 := Aside0.mk hc0
  clear hr0 hc0
  have HB := Aside0.mk (Below.refl w.heap.size w)
  have H : (replevinref16_EncodeAll.l0 k l0 ([] : List Int) 0) = some (r1, r2, r3) := h
  clear h
  have H' := Aside0.mk H
  clear H
  go_enter Try.func40, Try.ntmps40
  go_wp2
  go_loopg [5, 6] k (fun kq v5 v6 w' => ∃ (x5_1 : List Int) (x6_1 : Int), v6 = .int .i64 x6_1 ∧ Aside0 (replevinref16_EncodeAll.l0 kq l0 x5_1 x6_1 = some (r1, r2, r3)) ∧ Aside0 (kq ≤ k) ∧ Aside0 (Kd.R (Kd.int .u8) 5 w' w.heap.size (fun _ => True) v5 x5_1) ∧ Aside0 (Below w.heap.size w w'))
  case atStart => exact ⟨(([] : List Int)), (0), (by first | rfl | (simp; done) | (simp [*]; done)), H', ⟨Nat.le_refl _⟩, ⟨by first | exact Kd.R_nil _ _ _ _ _ | exact Kd.N_nil _ _ _ _ _ | exact Kd.V_nil _ _ _ _ _ | exact Kd.Q_nil _ _ _ _ _ | exact Kd.S_nil _ _ _ _ _⟩, ⟨by repeat (first | (with_reducible first | exact HB.out | apply below_alloc | apply pw_below_drewN | apply below_drew1) | exact HB.out)⟩⟩
  case round =>
    clear H'
    obtain ⟨x5_1, x6_1, rfl, HA, HK1, HO_5, HB⟩ := hrel
    cases gk with
    | zero => exact absurd HA.out (by simp [replevinref16_EncodeAll.l0])
    | succ k1 =>
      have H := HA.out
      clear HA
      simp only [replevinref16_EncodeAll.l0] at H
      by_cases c2 : x6_1 < (l0.length : Int)
      · rw [if_pos c2] at H
        have c2b0 : decide (x6_1 < (l0.length : Int)) = true := decide_eq_true c2
        clear c2
        by_cases c3 : 0 ≤ x6_1
        · rw [if_pos c3] at H
          have c3b0 : decide (0 ≤ x6_1) = true := decide_eq_true c3
          clear c3
          replace H := Option.bind_eq_some_iff.mp H
          obtain ⟨⟨t387, t388, t389, t390, t391⟩, A40, H⟩ := H
          replace H : (if t391 = 0 then ((some (([t387, t388, t389, t390] : List Int) : List Int)).bind fun y393 => (if x5_1.length + y393.length < 140737488355328 then (replevinref16_EncodeAll.l0 k1 l0 (x5_1 ++ y393) (wrap64 (x6_1 + 1))) else (none))) else (some (([] : List Int), x6_1, t391))) = some (r1, r2, r3) := H
          have A4 := Aside0.mk A40
          clear A40
          by_cases c5 : t391 = 0
          · rw [if_pos c5] at H
            have c5b0 : (t391 == 0) = true := beq_iff_eq.mpr c5
            have c5b1 : (t391 != 0) = false := bne_eq_false_iff_eq.mpr c5
            clear c5
            obtain ⟨y393, hy393⟩ : ∃ y_ : List Int, y_ = (([t387, t388, t389, t390] : List Int)) := ⟨_, rfl⟩
            replace H : (if x5_1.length + y393.length < 140737488355328 then (replevinref16_EncodeAll.l0 k1 l0 (x5_1 ++ y393) (wrap64 (x6_1 + 1))) else (none)) = some (r1, r2, r3) := by first | (rw [hy393]; with_reducible exact H) | (have H2_ := (Option.bind_some _ _).symm.trans H; rw [hy393]; with_reducible exact H2_) | (have H2_ := (Option.bind_some _ _).symm.trans H; with_reducible exact H2_) | with_reducible exact H | (rw [hy393]; exact H) | exact H
            have Ny393 := Aside0.mk hy393
            clear hy393
            by_cases c6 : x5_1.length + y393.length < 140737488355328
            · rw [if_pos c6] at H
              have LMc6 := Aside0.mk c6
              clear c6
              obtain ⟨y396, hy396⟩ : ∃ y_ : List Int, y_ = (x5_1 ++ y393) := ⟨_, rfl⟩
              replace H : (replevinref16_EncodeAll.l0 k1 l0 y396 (wrap64 (x6_1 + 1))) = some (r1, r2, r3) := by first | (rw [hy396]; with_reducible exact H) | (have H2_ := (Option.bind_some _ _).symm.trans H; rw [hy396]; with_reducible exact H2_) | (have H2_ := (Option.bind_some _ _).symm.trans H; with_reducible exact H2_) | with_reducible exact H | (rw [hy396]; exact H) | exact H
              have Ny396 := Aside0.mk hy396
              clear hy396
              have H' := Aside0.mk H
              clear H
              have p386 : 0 ≤ (x6_1 : Int) := of_decide_eq_true (by first | (with_reducible assumption) | assumption)
              have q386 : x6_1 < (l0.length : Int) := of_decide_eq_true (by first | (with_reducible assumption) | assumption)
              obtain ⟨ad386, e386, hx386_0, hx386_1, hx386_2, hx386_3⟩ := at_T23 HR0.out x6_1 p386 q386
              cases e386
              replace hx386_0 := (HB.out.cell (World.block_lt_of_cell? w _ hx386_0)).trans hx386_0
              replace hx386_1 := (HB.out.cell (World.block_lt_of_cell? w _ hx386_1)).trans hx386_1
              replace hx386_2 := (HB.out.cell (World.block_lt_of_cell? w _ hx386_2)).trans hx386_2
              replace hx386_3 := (HB.out.cell (World.block_lt_of_cell? w _ hx386_3)).trans hx386_3
              replace p386 := eq_true p386
              replace q386 := eq_true q386
              go_wp2_with (first | ((with_reducible refine gate_callee (f := 24) rfl ?_); refine goesL_ (some 20) rfl rfl Try.func24 (by kernel_rfl) rfl #[.agg #[.int .i64 ((rd_T23 l0 x6_1).f0), .int .i64 ((rd_T23 l0 x6_1).f1), .int .i64 ((rd_T23 l0 x6_1).f2), .int .i64 ((rd_T23 l0 x6_1).f3)]] rfl (by (try simp only [List.map_toArray, List.map_cons, List.map_nil]); first | done | rfl | (simp only [List.length_drop, List.length_take]; rfl)) ?_; (with_reducible refine (replevinref16_Encode.calls k1 ((rd_T23 l0 x6_1).f0) ((rd_T23 l0 x6_1).f1) ((rd_T23 l0 x6_1).f2) ((rd_T23 l0 x6_1).f3) t387 t388 t389 t390 t391 _ A4.out).mono ?_); rintro e w7 ⟨rfl, hb⟩; refine ⟨_, rfl, ?_⟩; have n0_ := Aside0.mk (Kd.R_below (by (with_reducible repeat (first | apply Kd.R_alloc | apply Kd.R_drewN | apply Kd.R_drew)); exact HO_5.out) hb); have n1_ := Aside0.mk (below_step (by repeat (first | (with_reducible first | exact HB.out | apply below_alloc | apply pw_below_drewN | apply below_drew1) | exact HB.out)) hb); clear HO_5; clear HB; have HO_5 := n0_; have HB := n1_; clear n0_ n1_; (try clear hb); (try clear hb2); (try clear hk); (try clear hi)) | ((with_reducible refine gate_dst (N := 7) rfl ?_); refine box_event ?hg (N := 7) ?hd (cs := #[.int .u8 0, .int .u8 0, .int .u8 0, .int .u8 0]) (t := 41) ?hr ?_; (case hd => rfl); (case hg => rfl); (case hr => first | (go_simp; done) | (go_simp; rfl)); intro gb392 hg w8 hbox hb; have n0_ := Aside0.mk (Kd.R_below (by (with_reducible repeat (first | apply Kd.R_alloc | apply Kd.R_drewN | apply Kd.R_drew)); exact HO_5.out) hb); have n1_ := Aside0.mk (below_step (by repeat (first | (with_reducible first | exact HB.out | apply below_alloc | apply pw_below_drewN | apply below_drew1) | exact HB.out)) hb); have n2_ := Aside0.mk (hbox); have n3_ := Aside0.mk ((by rw [hg]; exact (below_size (by repeat (first | (with_reducible first | exact HB.out | apply below_alloc | apply pw_below_drewN | apply below_drew1) | exact HB.out))) : w.heap.size ≤ gb392)); have n4_ := Aside0.mk ((by rw [hg]; exact (below_size (by repeat (first | (with_reducible first | exact HB.out | apply below_alloc | apply pw_below_drewN | apply below_drew1) | exact HB.out))) : w.heap.size ≤ gb392)); clear HO_5; clear HB; have HO_5 := n0_; have HB := n1_; have BK392 := n2_; have GW392 := n3_; have GE392 := n4_; clear n0_ n1_ n2_ n3_ n4_; clear hb hbox hg; have hcz9_0 : w8.cell? ⟨gb392, 0, none⟩ = some (.int .u8 0) := (blk_cell BK392.out 0).trans rfl; have hcz9_1 : w8.cell? ⟨gb392, 1, none⟩ = some (.int .u8 0) := (blk_cell BK392.out 1).trans rfl; have hcz9_2 : w8.cell? ⟨gb392, 2, none⟩ = some (.int .u8 0) := (blk_cell BK392.out 2).trans rfl; have hcz9_3 : w8.cell? ⟨gb392, 3, none⟩ = some (.int .u8 0) := (blk_cell BK392.out 3).trans rfl; have hfz9_0 := blk_frozen BK392.out 0; have hfz9_1 := blk_frozen BK392.out 1; have hfz9_2 := blk_frozen BK392.out 2; have hfz9_3 := blk_frozen BK392.out 3) | ((with_reducible refine gate_dst (N := 36) rfl ?_); refine Kd.R_lit (Kd.int .u8) _ 5 ?hg (N := 36) ?hd (xs := ([t387, t388, t389, t390] : List Int)) (inner := [.int .u8 t387, .int .u8 t388, .int .u8 t389, .int .u8 t390]) (ok := fun _ => True) (okp := fun _ => True) ?hr ?hp (fun _ hk => hk) trivial (Below.refl _ _) (Nat.le_refl _) (by simp) ?_; (case hd => rfl); (case hg => rfl); (case hr => first | (go_simp; done) | (go_simp; rfl)); (case hp => exact (Reps.one (show Kd.M (Kd.int .u8) _ _ _ t387 [.int .u8 t387] from rfl) (Reps.one (show Kd.M (Kd.int .u8) _ _ _ t388 [.int .u8 t388] from rfl) (Reps.one (show Kd.M (Kd.int .u8) _ _ _ t389 [.int .u8 t389] from rfl) (Reps.one (show Kd.M (Kd.int .u8) _ _ _ t390 [.int .u8 t390] from rfl) (Reps.none _ _)))))); intro v394 w10 ho11 hb hg_ hnew_; clear hg_ hnew_; (first | rw [← Ny393.out] at ho11 | (simp only [Int.reduceToNat] at ho11; rw [← Ny393.out] at ho11)); have n0_ := Aside0.mk (Kd.R_elder' (by (with_reducible repeat (first | apply Kd.R_alloc | apply Kd.R_drewN | apply Kd.R_drew)); exact (Kd.R_mono (Kd.R_far (p := ⟨gb392, 3, none⟩) (Kd.R_far (p := ⟨gb392, 2, none⟩) (Kd.R_far (p := ⟨gb392, 1, none⟩) (Kd.R_far (p := ⟨gb392, 0, none⟩) (Kd.R_types HO_5.out BK392.out (by decide)) (fun _ hk => hk.2) (.int .u8 t387)) (fun _ hk => hk.2) (.int .u8 t388)) (fun _ hk => hk.2) (.int .u8 t389)) (fun _ hk => hk.2) (.int .u8 t390)) (fun _ h_ => h_.1))) (Kd.R_base ho11) hb); have n1_ := Aside0.mk (Kd.R_lower (Kd.R_new' ho11 (Kd.R_lt (by (with_reducible repeat (first | apply Kd.R_alloc | apply Kd.R_drewN | apply Kd.R_drew)); exact (Kd.R_mono (Kd.R_far (p := ⟨gb392, 3, none⟩) (Kd.R_far (p := ⟨gb392, 2, none⟩) (Kd.R_far (p := ⟨gb392, 1, none⟩) (Kd.R_far (p := ⟨gb392, 0, none⟩) (Kd.R_types HO_5.out BK392.out (by decide)) (fun _ hk => hk.2) (.int .u8 t387)) (fun _ hk => hk.2) (.int .u8 t388)) (fun _ hk => hk.2) (.int .u8 t389)) (fun _ hk => hk.2) (.int .u8 t390)) (fun _ h_ => h_.1))))) (below_size (by repeat (first | (with_reducible first | exact HB.out | apply below_alloc | apply pw_below_drewN | apply below_drew1 | refine below_set ?_ GE392.out) | exact HB.out)))); have n2_ := Aside0.mk (blk_below (g := gb392) (o := .cells #[.int .u8 t387, .int .u8 t388, .int .u8 t389, .int .u8 t390] 41 (0, 0)) (by (with_reducible repeat (first | refine blk_drewN ?_ _ | refine blk_drew ?_ | refine blk_alloc ?_ _)); refine blk_put (cs := #[.int .u8 t387, .int .u8 t388, .int .u8 t389, .int .u8 0]) ?_ 3 _ rfl; (with_reducible repeat (first | refine blk_drewN ?_ _ | refine blk_drew ?_ | refine blk_alloc ?_ _)); refine blk_put (cs := #[.int .u8 t387, .int .u8 t388, .int .u8 0, .int .u8 0]) ?_ 2 _ rfl; (with_reducible repeat (first | refine blk_drewN ?_ _ | refine blk_drew ?_ | refine blk_alloc ?_ _)); refine blk_put (cs := #[.int .u8 t387, .int .u8 0, .int .u8 0, .int .u8 0]) ?_ 1 _ rfl; (with_reducible repeat (first | refine blk_drewN ?_ _ | refine blk_drew ?_ | refine blk_alloc ?_ _)); refine blk_put (cs := #[.int .u8 0, .int .u8 0, .int .u8 0, .int .u8 0]) ?_ 0 _ rfl; (with_reducible repeat (first | refine blk_drewN ?_ _ | refine blk_drew ?_ | refine blk_alloc ?_ _)); exact BK392.out) hb); have n3_ := Aside0.mk (below_step (by repeat (first | (with_reducible first | exact HB.out | apply below_alloc | apply pw_below_drewN | apply below_drew1 | refine below_set ?_ GE392.out) | exact HB.out)) hb); clear HO_5; clear BK392; clear HB; have HO_5 := n0_; have HO395 := n1_; have BK392 := n2_; have HB := n3_; clear n0_ n1_ n2_ n3_; clear hb ho11; obtain ⟨Ao13, co13, eo13⟩ := Kd.R_slice HO395.out; subst eo13) | ((with_reducible refine gate_builtin (b := .append) (xs := #[.tmp 27, .tmp 36]) rfl ?_); at_builtin; refine Kd.R_append_rows (Kd.int .u8) (w0 := w) w.heap.size rfl (.tmp 27) (.tmp 36) 52 5 (.int .u8 0) 1 rfl Try.underlying52 info5 rfl (by decide) (by omega) u5 x5_1 y393 _ _ _ (fun k_ => some k_ ≠ (.slice Ao13 y393.length co13 : Value).ownBlock) (fun _ => False) rfl rfl ?aO ?aR (fun _ _ h => h) (fun _ h => h.elim) ?aF ?aB ?aS ?aL ?_; (case aR => repeat (first | exact (Kd.R_reads' HO395.out).2.2 | (with_reducible refine Kd.C_alloc ?_ _) | (with_reducible refine Kd.C_drewN ?_ _) | (with_reducible refine Kd.C_drew ?_))); (case aB => exact (by repeat (first | (with_reducible first | exact HB.out | apply below_alloc | apply pw_below_drewN | apply below_drew1 | refine below_set ?_ GE392.out) | exact HB.out))); (case aF => exact (fun k_ hk => Kd.fresh' (Kd.R_lt (by (with_reducible repeat (first | apply Kd.R_alloc | apply Kd.R_drewN | apply Kd.R_drew)); exact HO395.out)) k_ hk)); (case aO => exact (by (with_reducible repeat (first | apply Kd.R_alloc | apply Kd.R_drewN | apply Kd.R_drew)); exact Kd.R_mono HO_5.out (fun _ hk => hk.2))); (case aS => exact (below_size (by repeat (first | (with_reducible first | exact HB.out | apply below_alloc | apply pw_below_drewN | apply below_drew1 | refine below_set ?_ GE392.out) | exact HB.out)))); (case aL => have := LMc6.out; omega); intro v397 w12 ho hb hg hat; rw [← Ny396.out] at ho; have n0_ := Aside0.mk (blk_grown (g := gb392) (o := .cells #[.int .u8 t387, .int .u8 t388, .int .u8 t389, .int .u8 t390] 41 (0, 0)) (by (with_reducible repeat (first | refine blk_drewN ?_ _ | refine blk_drew ?_ | refine blk_alloc ?_ _)); exact BK392.out) hg (Kd.R_ne HO_5.out BK392.out (by decide))); have n1_ := Aside0.mk (Kd.R_after (ok := (fun _ => True)) (by (with_reducible repeat (first | apply Kd.R_alloc | apply Kd.R_drewN | apply Kd.R_drew)); exact HO395.out) hg hat); have n2_ := Aside0.mk (hb); have n3_ := Aside0.mk (ho); clear BK392; clear HO395; clear HB; clear HO_5; have BK392 := n0_; have HO395 := n1_; have HB := n2_; have HO398 := n3_; clear n0_ n1_ n2_ n3_; clear ho hb hg hat))
              go_roundg k1
              case measure => have := HK1.out; omega
              case rel => exact ⟨(y396), (wrap64 (x6_1 + 1)), (by first | rfl | (simp; done) | (simp [*]; done)), H', ⟨by have := HK1.out; omega⟩, ⟨by (with_reducible repeat (first | apply Kd.R_alloc | apply Kd.R_drewN | apply Kd.R_drew)); exact Kd.R_mono HO398.out (fun _ hk => trivial)⟩, ⟨by repeat (first | (with_reducible first | exact HB.out | apply below_alloc | apply pw_below_drewN | apply below_drew1 | refine below_set ?_ GE392.out) | exact HB.out)⟩⟩
            · rw [if_neg c6] at H
              exact absurd H (by simp)
          · rw [if_neg c5] at H
            have c5b0 : (t391 == 0) = false := beq_eq_false_iff_ne.mpr c5
            have c5b1 : (t391 != 0) = true := bne_iff_ne.mpr c5
            simp only [Option.some.injEq, Prod.mk.injEq] at H
            obtain ⟨rfl, rfl, rfl⟩ := H
            have p386 : 0 ≤ (x6_1 : Int) := of_decide_eq_true (by first | (with_reducible assumption) | assumption)
            have q386 : x6_1 < (l0.length : Int) := of_decide_eq_true (by first | (with_reducible assumption) | assumption)
            obtain ⟨ad386, e386, hx386_0, hx386_1, hx386_2, hx386_3⟩ := at_T23 HR0.out x6_1 p386 q386
            cases e386
            replace hx386_0 := (HB.out.cell (World.block_lt_of_cell? w _ hx386_0)).trans hx386_0
            replace hx386_1 := (HB.out.cell (World.block_lt_of_cell? w _ hx386_1)).trans hx386_1
            replace hx386_2 := (HB.out.cell (World.block_lt_of_cell? w _ hx386_2)).trans hx386_2
            replace hx386_3 := (HB.out.cell (World.block_lt_of_cell? w _ hx386_3)).trans hx386_3
            replace p386 := eq_true p386
            replace q386 := eq_true q386
            go_wp2_with (first | ((with_reducible refine gate_callee (f := 24) rfl ?_); refine goesL_ (some 20) rfl rfl Try.func24 (by kernel_rfl) rfl #[.agg #[.int .i64 ((rd_T23 l0 x6_1).f0), .int .i64 ((rd_T23 l0 x6_1).f1), .int .i64 ((rd_T23 l0 x6_1).f2), .int .i64 ((rd_T23 l0 x6_1).f3)]] rfl (by (try simp only [List.map_toArray, List.map_cons, List.map_nil]); first | done | rfl | (simp only [List.length_drop, List.length_take]; rfl)) ?_; (with_reducible refine (replevinref16_Encode.calls k1 ((rd_T23 l0 x6_1).f0) ((rd_T23 l0 x6_1).f1) ((rd_T23 l0 x6_1).f2) ((rd_T23 l0 x6_1).f3) t387 t388 t389 t390 t391 _ A4.out).mono ?_); rintro e w14 ⟨rfl, hb⟩; refine ⟨_, rfl, ?_⟩; have n0_ := Aside0.mk (Kd.R_below (by (with_reducible repeat (first | apply Kd.R_alloc | apply Kd.R_drewN | apply Kd.R_drew)); exact HO_5.out) hb); have n1_ := Aside0.mk (below_step (by repeat (first | (with_reducible first | exact HB.out | apply below_alloc | apply pw_below_drewN | apply below_drew1) | exact HB.out)) hb); clear HO_5; clear HB; have HO_5 := n0_; have HB := n1_; clear n0_ n1_; (try clear hb); (try clear hb2); (try clear hk); (try clear hi)) | ((with_reducible refine gate_dst (N := 7) rfl ?_); refine box_event ?hg (N := 7) ?hd (cs := #[.int .u8 0, .int .u8 0, .int .u8 0, .int .u8 0]) (t := 41) ?hr ?_; (case hd => rfl); (case hg => rfl); (case hr => first | (go_simp; done) | (go_simp; rfl)); intro gb392 hg w15 hbox hb; have n0_ := Aside0.mk (Kd.R_below (by (with_reducible repeat (first | apply Kd.R_alloc | apply Kd.R_drewN | apply Kd.R_drew)); exact HO_5.out) hb); have n1_ := Aside0.mk (below_step (by repeat (first | (with_reducible first | exact HB.out | apply below_alloc | apply pw_below_drewN | apply below_drew1) | exact HB.out)) hb); have n2_ := Aside0.mk (hbox); have n3_ := Aside0.mk ((by rw [hg]; exact (below_size (by repeat (first | (with_reducible first | exact HB.out | apply below_alloc | apply pw_below_drewN | apply below_drew1) | exact HB.out))) : w.heap.size ≤ gb392)); have n4_ := Aside0.mk ((by rw [hg]; exact (below_size (by repeat (first | (with_reducible first | exact HB.out | apply below_alloc | apply pw_below_drewN | apply below_drew1) | exact HB.out))) : w.heap.size ≤ gb392)); clear HO_5; clear HB; have HO_5 := n0_; have HB := n1_; have BK392 := n2_; have GW392 := n3_; have GE392 := n4_; clear n0_ n1_ n2_ n3_ n4_; clear hb hbox hg; have hcz16_0 : w15.cell? ⟨gb392, 0, none⟩ = some (.int .u8 0) := (blk_cell BK392.out 0).trans rfl; have hcz16_1 : w15.cell? ⟨gb392, 1, none⟩ = some (.int .u8 0) := (blk_cell BK392.out 1).trans rfl; have hcz16_2 : w15.cell? ⟨gb392, 2, none⟩ = some (.int .u8 0) := (blk_cell BK392.out 2).trans rfl; have hcz16_3 : w15.cell? ⟨gb392, 3, none⟩ = some (.int .u8 0) := (blk_cell BK392.out 3).trans rfl; have hfz16_0 := blk_frozen BK392.out 0; have hfz16_1 := blk_frozen BK392.out 1; have hfz16_2 := blk_frozen BK392.out 2; have hfz16_3 := blk_frozen BK392.out 3))
            go_ret3
            exact ⟨_, by first | rfl | (simp [errW_none, errW_some] <;> rfl) | (simp [*, errW_none, errW_some] <;> rfl), by first | exact Kd.R_nil _ _ _ _ _ | exact Kd.N_nil _ _ _ _ _ | exact Kd.V_nil _ _ _ _ _ | exact Kd.Q_nil _ _ _ _ _ | exact Kd.S_nil _ _ _ _ _, by repeat (first | (with_reducible first | exact HB.out | apply below_alloc | apply pw_below_drewN | apply below_drew1 | refine below_set ?_ GE392.out) | exact HB.out)⟩
        · rw [if_neg c3] at H
          exact absurd H (by simp)
      · rw [if_neg c2] at H
        have c2b0 : decide (x6_1 < (l0.length : Int)) = false := decide_eq_false c2
        clear c2
        simp only [Option.some.injEq, Prod.mk.injEq] at H
        obtain ⟨rfl, rfl, rfl⟩ := H
        go_wp2
        go_ret3
        exact ⟨_, by first | rfl | (simp [errW_none, errW_some] <;> rfl) | (simp [*, errW_none, errW_some] <;> rfl), by (with_reducible repeat (first | apply Kd.R_alloc | apply Kd.R_drewN | apply Kd.R_drew)); exact HO_5.out, by repeat (first | (with_reducible first | exact HB.out | apply below_alloc | apply pw_below_drewN | apply below_drew1) | exact HB.out)⟩

end Go.Proofs.Ytdnhekgdpolenaa.Q
