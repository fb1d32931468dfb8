/- graph.New: the third error. -/
import Derived.Test.YthkgfmjgilkdeaaHNew
namespace Go.Proofs.Ythkgfmjgilkdeaa
set_option linter.unusedVariables false
set_option linter.unusedSimpArgs false
open Go.RowKit Go.Shelf Go.Sort Go.Proofs.Ythkgfmjgilkdeaa.Q Go.Proofs.YthkgfmjgilkdeaaW.PrintWords Go.Proofs.YthkgfmjgilkdeaaW.PrintLast Go.Proofs.YthkgfmjgilkdeaaW.PrintMore
set_option maxHeartbeats 4000000 in
set_option maxRecDepth 100000 in
theorem New_bad (N : Nat) (A : Option Addr) (c : Nat) (es : List S44) (pb : Nat) (w : World) (hN : N ≤ 4096) (hE : es.length ≤ 65536) (hp : pb < es.length) (hok : ∀ e, e ∈ es.take pb → okEdge N e) (hbad : ¬ okEdge N (rd_T44 es (pb : Int))) (hr : k44.C w A es.length es) :
    Calls Try.prog 33 #[.int .i64 N, .slice A es.length c] w fun e w' => e = .returned (.tuple #[.pointer none, .int .i64 8]) ∧ Below w.heap.size w w' := by
  have HB0 := Aside0.mk (Below.refl w.heap.size w)
  have HR := Aside0.mk hr
  have HOK := Aside0.mk hok
  have HBD := Aside0.mk hbad
  have hmk := make50 N hN
  have hu76 := Try.underlying76
  have hu44 := Try.underlying44
  have c1 : ((N : Int) < 0) = False := eq_false (by omega)
  have c2 : ((N : Int) > 4096) = False := eq_false (by omega)
  have c3 : ((es.length : Int) > 65536) = False := eq_false (by omega)
  clear hr hok hbad
  go_enter Try.func33, Try.ntmps33
  go_upto_region 5 with fail
  go_cut [6] from 21 to 26 (fun v6 w' => ∃ gb, v6 = .pointer (some ⟨gb, 0, none⟩) ∧ Aside0 (St w w' gb N es 0))
  case first =>
    go_region
    all_goals
      go_wp2_with fail
      go_meet
      case rel =>
        refine ⟨_, rfl, ⟨?_⟩⟩
        first
          | (refine st_start (w.heap.size + 1) w.heap.size ?_ ?_ (by omega) (by omega) (by omega) ?_ ?_
             · exact blk_drew (blk_alloc (by have := heap_alloc_last (w.alloc (.cells (hdr0 N) 30)) (.cells (hdr0 N) 30); rwa [World.size_alloc] at this) _)
             · exact blk_drew (blk_alloc (blk_alloc (heap_alloc_last w _) _) _)
             · refine blk_drew ?_
               have := heap_alloc_last ((w.alloc (.cells (hdr0 N) 30)).alloc (.cells (hdr0 N) 30)) (.cells #[.slice (some ⟨w.heap.size + 1, 0, none⟩) N N, .slice (some ⟨w.heap.size, 0, none⟩) N N] 76)
               rwa [World.size_alloc, World.size_alloc] at this
             · repeat (first | exact HB0.out | apply below_alloc | apply pw_below_drewN | apply below_drew1))
          | (refine st_start w.heap.size (w.heap.size + 1) ?_ ?_ (by omega) (by omega) (by omega) ?_ ?_
             · exact blk_drew (blk_alloc (blk_alloc (heap_alloc_last w _) _) _)
             · exact blk_drew (blk_alloc (by have := heap_alloc_last (w.alloc (.cells (hdr0 N) 30)) (.cells (hdr0 N) 30); rwa [World.size_alloc] at this) _)
             · refine blk_drew ?_
               have := heap_alloc_last ((w.alloc (.cells (hdr0 N) 30)).alloc (.cells (hdr0 N) 30)) (.cells #[.slice (some ⟨w.heap.size, 0, none⟩) N N, .slice (some ⟨w.heap.size + 1, 0, none⟩) N N] 76)
               rwa [World.size_alloc, World.size_alloc] at this
             · repeat (first | exact HB0.out | apply below_alloc | apply pw_below_drewN | apply below_drew1))
  case rest =>
    clear HB0
    obtain ⟨gb, rfl, HS0⟩ := hcut
    obtain ⟨i3, hi3, hi3z, hi3s, hi3b⟩ := info_parts info3
    have I3 := Aside0.mk (And.intro hi3 (And.intro hi3z (And.intro hi3s hi3b)))
    clear hi3 hi3z hi3s hi3b
    go_wp2_with fail
    go_loopg [29] pb (fun kq v29 w' => ∃ (i : Nat), v29 = .int .i64 i ∧ i + kq = pb ∧ Aside0 (St w w' gb N es i))
    case atStart => exact ⟨0, rfl, by omega, HS0⟩
    case round =>
      clear HS0
      obtain ⟨i, rfl, hi, HS⟩ := hrel
      cases gk with
      | zero =>
        obtain rfl : i = pb := by omega
        obtain ⟨g, val, hb, hH, hRw⟩ := HS.out.ex
        obtain ⟨ad, e0, hx0, hx1⟩ := at_T44 (Kd.C_below HR.out HS.out.bel) (i : Int) (by omega) (by omega)
        rw [Int.toNat_natCast] at hx0 hx1
        subst e0
        have hv := HBD.out
        obtain ⟨⟨y0, y1⟩, hx⟩ : ∃ x, x = rd_T44 es (i : Int) := ⟨_, rfl⟩
        rw [← hx] at hx0 hx1 hv
        have p := eq_true (show (0 : Int) ≤ i by omega)
        have q : ((i : Int) < (es.length : Int)) = True := eq_true (by omega)
        have z0 := (blk_cell (blk_alloc hb (.cells #[.int .i64 y0, .int .i64 y1] 44)) 0)
        have HB := Aside0.mk (below_alloc HS.out.bel (.cells #[.int .i64 y0, .int .i64 y1] 44))
        clear hx hb hH hRw HS HBD HOK HR I3
        by_cases h0 : 0 ≤ y0 ∧ y0 < N
        · have i0 : isIn N y0 = true := by unfold isIn; simp; omega
          have i1 : isIn N y1 = false := by
            unfold isIn
            unfold okEdge at hv
            simp only at hv
            rw [Bool.eq_false_iff]
            intro h
            simp only [Bool.and_eq_true, decide_eq_true_eq] at h
            exact hv ⟨h0, h⟩
          clear hv h0
          go_wp2_with (go_at_call 37; first | (refine (node_cell (z0.trans rfl) _).mono ?_; rw [i0]; rintro e w' ⟨rfl, ⟨mm, rfl⟩⟩) | (refine (node_cell (n := N) (c := N) (g := some ⟨g true, 0, none⟩) ?hz _).mono ?_; (case hz => exact z0.trans rfl); rw [i1]; rintro e W1 ⟨rfl, ⟨mm1, hW1⟩⟩; have HB1 := Aside0.mk (show Below w.heap.size w W1 from hW1 ▸ pw_below_drewN (pw_below_drewN HB.out _) _); clear hW1))
          go_ret2
          exact ⟨rfl, HB1.out⟩
        · have i0 : isIn N y0 = false := by
            unfold isIn
            rw [Bool.eq_false_iff]
            intro h
            simp only [Bool.and_eq_true, decide_eq_true_eq] at h
            exact h0 h
          clear hv h0
          go_wp2_with (go_at_call 37; refine (node_cell (z0.trans rfl) _).mono ?_; rw [i0]; rintro e W1 ⟨rfl, ⟨mm1, hW1⟩⟩; have HB1 := Aside0.mk (show Below w.heap.size w W1 from hW1 ▸ pw_below_drewN HB.out _); clear hW1)
          go_ret2
          exact ⟨rfl, HB1.out⟩
      | succ k1 =>
        have hlt : i < es.length := by omega
        obtain ⟨g, val, hb, hH, hRw⟩ := HS.out.ex
        obtain ⟨ad, e0, hx0, hx1⟩ := at_T44 (Kd.C_below HR.out HS.out.bel) (i : Int) (by omega) (by omega)
        rw [Int.toNat_natCast] at hx0 hx1
        subst e0
        have hv := HOK.out (rd_T44 es (i : Int)) (List.mem_of_getElem? (i := i) (by rw [List.getElem?_take, if_pos (by omega)]; show es[i]? = some (es.getD i z44); rw [List.getD_eq_getElem?_getD, List.getElem?_eq_getElem hlt]; rfl))
        have p := eq_true (show (0 : Int) ≤ i by omega)
        have q : ((i : Int) < (es.length : Int)) = True := eq_true (by omega)
        have Hx := Aside0.mk (show es[i]? = some (rd_T44 es (i : Int)) by show _ = some (es.getD i z44); rw [List.getD_eq_getElem?_getD, List.getElem?_eq_getElem hlt]; rfl)
        obtain ⟨⟨y0, y1⟩, hx⟩ : ∃ x, x = rd_T44 es (i : Int) := ⟨_, rfl⟩
        rw [← hx] at hx0 hx1 Hx hv
        obtain ⟨n0, rfl⟩ := Int.eq_ofNat_of_zero_le hv.1.1
        obtain ⟨n1, rfl⟩ := Int.eq_ofNat_of_zero_le hv.2.1
        have b0 : n0 < N := by have : (n0 : Int) < N := hv.1.2; omega
        have b1 : n1 < N := by have : (n1 : Int) < N := hv.2.2; omega
        have i0 : isIn N n0 = true := by unfold isIn; simp; omega
        have i1 : isIn N n1 = true := by unfold isIn; simp; omega
        have m0 : (0 : Int) ≤ (n0 : Int) := by omega
        have m1 : (0 : Int) ≤ (n1 : Int) := by omega
        have m2 : (n0 : Int) < (N : Int) := by omega
        have m3 : (n1 : Int) < (N : Int) := by omega
        have z0 := (blk_cell (blk_alloc hb (.cells #[.int .i64 n0, .int .i64 n1] 44)) 0)
        obtain ⟨gx, hgx⟩ : ∃ gx, gx = wr.heap.size := ⟨_, rfl⟩
        have HM0 := Aside0.mk (show Mid w (wr.alloc (.cells #[.int .i64 n0, .int .i64 n1] 44)) gb gx N g ⟨n0, n1⟩ val (ends (es.take i)) from ⟨blk_alloc hb _, hH.alloc _, hRw.alloc _, by rw [hgx]; exact heap_alloc_last wr _, below_alloc HS.out.bel _⟩)
        obtain ⟨XX, hXX⟩ : ∃ XX, XX = ends (es.take i) := ⟨_, rfl⟩
        have HXX := Aside0.mk hXX
        rw [← hXX] at HM0
        have HLX := Aside0.mk (show ∀ t j, (XX t j).length ≤ 65535 from fun t j => by rw [hXX]; exact Nat.le_trans (ends_len _ _ _) (by rw [List.length_take]; omega))
        have Hgx := Aside0.mk hgx
        clear hx hb hH hRw HS hv hXX hgx
        go_upto_region 11 with (go_at_call 37; first | (refine (node_cell (z0.trans rfl) _).mono ?_; rw [i0]; rintro e w' ⟨rfl, ⟨mm, rfl⟩⟩) | (refine (node_cell (n := N) (c := N) (g := some ⟨g true, 0, none⟩) ?hz _).mono ?_; (case hz => exact z0.trans rfl); rw [i1]; rintro e W1 ⟨rfl, ⟨mm1, hW1⟩⟩; have HM := Aside0.mk (show Mid w W1 gb gx N g ⟨n0, n1⟩ val XX from hW1 ▸ ⟨blk_drewN (blk_drewN HM0.out.hb _) _, (HM0.out.hh.drewN _).drewN _, (HM0.out.hr.drewN _).drewN _, blk_drewN (blk_drewN HM0.out.bx _) _, pw_below_drewN (pw_below_drewN HM0.out.bel _) _⟩); clear hW1 HM0))
        clear z0 hx0 hx1 p q
        rw [← Hgx.out]
        go_cut [29] from 29 to 83 (fun v29 w' => v29 = .int .i64 i ∧ ∃ v, Aside0 (Mid w w' gb gx N g ⟨n0, n1⟩ (upd val true n0 v) (upd XX true n0 (XX true n0 ++ [(n1 : Int)]))))
        case first =>
          obtain ⟨A, c0, ev⟩ := row_form (HM.out.hr.own true n0 b0)
          have own := HM.out.hr.own true n0 b0
          have z0 : W1.cell? ⟨gb, 0, none⟩ = some (.slice (some ⟨g true, 0, none⟩) N N) := (blk_cell HM.out.hb 0).trans rfl
          have z1 : W1.cell? ⟨gx, 0, none⟩ = some (.int .i64 n0) := (blk_cell HM.out.bx 0).trans rfl
          have z2 : W1.cell? ⟨gx, 1, none⟩ = some (.int .i64 n1) := (blk_cell HM.out.bx 1).trans rfl
          have z3 := HM.out.hh.cell true b0
          rw [ev] at own z3
          have LX := Aside0.mk (show (XX true n0).length ≤ 65536 from Nat.le_trans (HLX.out true n0) (by decide))
          obtain ⟨M, hM⟩ : ∃ M, M = (XX true n0).length := ⟨_, rfl⟩
          obtain ⟨X, hX⟩ : ∃ X, X = (XX true n0).map (Value.int .i64) := ⟨_, rfl⟩
          have LM : M ≤ 65536 := by rw [hM]; exact LX.out
          rw [← hM] at own z3 ev
          rw [← hX] at own
          have HM1 := Aside0.mk (And.intro hM hX)
          have Ev := Aside0.mk ev
          have Own := Aside0.mk own
          have sz := Aside0.mk (below_size HM.out.bel)
          have y0 := fun o => cell_al o z0
          have y1 := fun o => cell_al o z1
          have y2 := fun o => cell_al o z2
          have y3 := fun o => cell_al o z3
          clear hM hX ev own
          have HMd := Aside0.mk HM.out.drew
          have Ownd := Aside0.mk (show World.ownsRow W1.drew w.heap.size 3 1 (.slice A M c0) M X from Own.out)
          replace z0 : W1.drew.cell? ⟨gb, 0, none⟩ = some (.slice (some ⟨g true, 0, none⟩) N N) := z0
          replace z1 : W1.drew.cell? ⟨gx, 0, none⟩ = some (.int .i64 n0) := z1
          replace z2 : W1.drew.cell? ⟨gx, 1, none⟩ = some (.int .i64 n1) := z2
          replace z3 : W1.drew.cell? ⟨g true, n0, none⟩ = some (.slice A M c0) := z3
          clear y0 y1 y2 y3 HM Own sz
          refine start_ (n := 20) (S := fun w' => w'.cell? ⟨gb, 0, none⟩ = some (.slice (some ⟨g true, 0, none⟩) N N) ∧ w'.cell? ⟨gx, 0, none⟩ = some (.int .i64 n0) ∧ w'.cell? ⟨gx, 1, none⟩ = some (.int .i64 n1) ∧ w'.cell? ⟨g true, n0, none⟩ = some (.slice A M c0)) (ds := [19]) #[false, false, false, false, false, false, false, false, false, false, false, false, false, false, false, false, false, false, false, false] (by kernel_rfl) rfl rfl ⟨z0, z1, z2, z3⟩ (fun hHeld => ?_)
          refine with_tabW NewR.tab11 NewR.bits11 (fun HT_ HW_ => ?_)
          generalize W1.drew = w5 at z0 z1 z2 z3 HMd Ownd hHeld ⊢
          have sz := Aside0.mk (below_size HMd.out.bel)
          refine pure_ (i := 0) (N := some 45) (v := ?_) (a' := ?_) #[true, false, false, false, false, false, false, false, false, false, false, false, false, false, false, false, false, false, false, false] rfl rfl (any_of HT_.out (by kernel_rfl)) (fun _ _ _ h => h) (Or.inl ⟨by rfl, ?_⟩) ?_ ?_
          rotate_left
          · intro w'
            go_simp
            with_reducible rfl
          rotate_left
          · simp only [Act.put, List.setIfInBounds_toArray, List.set_cons_zero, List.set_cons_succ, i64_w, i32_w]
            rfl
          refine pure_ (i := 1) (N := some 46) (v := ?_) (a' := ?_) #[true, true, false, false, false, false, false, false, false, false, false, false, false, false, false, false, false, false, false, false] rfl rfl (any_of HT_.out (by kernel_rfl)) (fun _ _ _ h => h) (Or.inl ⟨by rfl, ?_⟩) ?_ ?_
          rotate_left
          · intro w'
            go_simp
            with_reducible rfl
          rotate_left
          · simp only [Act.put, List.setIfInBounds_toArray, List.set_cons_zero, List.set_cons_succ, i64_w, i32_w]
            rfl
          refine pure_ (i := 2) (N := some 47) (v := ?_) (a' := ?_) #[true, true, true, false, false, false, false, false, false, false, false, false, false, false, false, false, false, false, false, false] rfl rfl (any_of HT_.out (by kernel_rfl)) (fun _ _ _ h => h) (Or.inl ⟨by rfl, ?_⟩) ?_ ?_
          rotate_left
          · intro w'
            go_simp
            with_reducible rfl
          rotate_left
          · simp only [Act.put, List.setIfInBounds_toArray, List.set_cons_zero, List.set_cons_succ, i64_w, i32_w]
            rfl
          refine pure_ (i := 4) (N := some 49) (v := ?_) (a' := ?_) #[true, true, true, false, true, false, false, false, false, false, false, false, false, false, false, false, false, false, false, false] rfl rfl (any_of HT_.out (by kernel_rfl)) (fun _ _ _ h => h) (Or.inl ⟨by rfl, ?_⟩) ?_ ?_
          rotate_left
          · intro w'
            go_simp
            with_reducible rfl
          rotate_left
          · simp only [Act.put, List.setIfInBounds_toArray, List.set_cons_zero, List.set_cons_succ, i64_w, i32_w]
            rfl
          refine pure_ (i := 6) (N := some 51) (v := ?_) (a' := ?_) #[true, true, true, false, true, false, true, false, false, false, false, false, false, false, false, false, false, false, false, false] rfl rfl (any_of HT_.out (by kernel_rfl)) (fun _ _ _ h => h) (Or.inl ⟨by rfl, ?_⟩) ?_ ?_
          rotate_left
          · intro w'
            go_simp
            with_reducible rfl
          rotate_left
          · simp only [Act.put, List.setIfInBounds_toArray, List.set_cons_zero, List.set_cons_succ, i64_w, i32_w]
            rfl
          refine pure_ (i := 7) (N := some 52) (v := ?_) (a' := ?_) #[true, true, true, false, true, false, true, true, false, false, false, false, false, false, false, false, false, false, false, false] rfl rfl (any_of HT_.out (by kernel_rfl)) (fun _ _ _ h => h) (Or.inl ⟨by rfl, ?_⟩) ?_ ?_
          rotate_left
          · intro w'
            go_simp
            with_reducible rfl
          rotate_left
          · simp only [Act.put, List.setIfInBounds_toArray, List.set_cons_zero, List.set_cons_succ, i64_w, i32_w]
            rfl
          refine pure_ (i := 8) (N := some 53) (v := ?_) (a' := ?_) #[true, true, true, false, true, false, true, true, true, false, false, false, false, false, false, false, false, false, false, false] rfl rfl (any_of HT_.out (by kernel_rfl)) (fun _ _ _ h => h) (Or.inl ⟨by rfl, ?_⟩) ?_ ?_
          rotate_left
          · intro w'
            go_simp
            with_reducible rfl
          rotate_left
          · simp only [Act.put, List.setIfInBounds_toArray, List.set_cons_zero, List.set_cons_succ, i64_w, i32_w]
            rfl
          refine pure_ (i := 10) (N := some 55) (v := ?_) (a' := ?_) #[true, true, true, false, true, false, true, true, true, false, true, false, false, false, false, false, false, false, false, false] rfl rfl (any_of HT_.out (by kernel_rfl)) (fun _ _ _ h => h) (Or.inl ⟨by rfl, ?_⟩) ?_ ?_
          rotate_left
          · intro w'
            go_simp
            with_reducible rfl
          rotate_left
          · simp only [Act.put, List.setIfInBounds_toArray, List.set_cons_zero, List.set_cons_succ, i64_w, i32_w]
            rfl
          refine pure_ (i := 14) (N := some 59) (v := ?_) (a' := ?_) #[true, true, true, false, true, false, true, true, true, false, true, false, false, false, true, false, false, false, false, false] rfl rfl (any_of HT_.out (by kernel_rfl)) (fun _ _ _ h => h) (Or.inl ⟨by rfl, ?_⟩) ?_ ?_
          rotate_left
          · intro w'
            go_simp
            with_reducible rfl
          rotate_left
          · simp only [Act.put, List.setIfInBounds_toArray, List.set_cons_zero, List.set_cons_succ, i64_w, i32_w]
            rfl
          refine take_ (i := 3) (N := some 48) (v := ?_) (a' := ?_) #[true, true, true, true, true, false, true, true, true, false, true, false, false, false, true, false, false, false, false, false] rfl rfl (take_ofW HT_.out HW_.out (by kernel_rfl)) (fun _ _ _ h => h) (Or.inl ⟨by rfl, ?_⟩) hHeld ?_ ?_
          rotate_left
          · rintro w' ⟨s0, s1, s2, s3⟩
            go_simp
            with_reducible rfl
          rotate_left
          · simp only [Act.put, List.setIfInBounds_toArray, List.set_cons_zero, List.set_cons_succ, i64_w, i32_w]
            rfl
          refine take_ (i := 5) (N := some 50) (v := ?_) (a' := ?_) #[true, true, true, true, true, true, true, true, true, false, true, false, false, false, true, false, false, false, false, false] rfl rfl (take_ofW HT_.out HW_.out (by kernel_rfl)) (fun _ _ _ h => h) (Or.inl ⟨by rfl, ?_⟩) hHeld ?_ ?_
          rotate_left
          · rintro w' ⟨s0, s1, s2, s3⟩
            go_simp
            with_reducible rfl
          rotate_left
          · simp only [Act.put, List.setIfInBounds_toArray, List.set_cons_zero, List.set_cons_succ, i64_w, i32_w]
            rfl
          refine take_ (i := 9) (N := some 54) (v := ?_) (a' := ?_) #[true, true, true, true, true, true, true, true, true, true, true, false, false, false, true, false, false, false, false, false] rfl rfl (take_ofW HT_.out HW_.out (by kernel_rfl)) (fun _ _ _ h => h) (Or.inl ⟨by rfl, ?_⟩) hHeld ?_ ?_
          rotate_left
          · rintro w' ⟨s0, s1, s2, s3⟩
            go_simp
            with_reducible rfl
          rotate_left
          · simp only [Act.put, List.setIfInBounds_toArray, List.set_cons_zero, List.set_cons_succ, i64_w, i32_w]
            rfl
          refine take_ (i := 11) (N := some 56) (v := ?_) (a' := ?_) #[true, true, true, true, true, true, true, true, true, true, true, true, false, false, true, false, false, false, false, false] rfl rfl (take_ofW HT_.out HW_.out (by kernel_rfl)) (fun _ _ _ h => h) (Or.inl ⟨by rfl, ?_⟩) hHeld ?_ ?_
          rotate_left
          · rintro w' ⟨s0, s1, s2, s3⟩
            go_simp
            with_reducible rfl
          rotate_left
          · simp only [Act.put, List.setIfInBounds_toArray, List.set_cons_zero, List.set_cons_succ, i64_w, i32_w]
            rfl
          refine pure_ (i := 12) (N := some 57) (v := ?_) (a' := ?_) #[true, true, true, true, true, true, true, true, true, true, true, true, true, false, true, false, false, false, false, false] rfl rfl (any_of HT_.out (by kernel_rfl)) (fun _ _ _ h => h) (Or.inl ⟨by rfl, ?_⟩) ?_ ?_
          rotate_left
          · intro w'
            go_simp
            with_reducible rfl
          rotate_left
          · simp only [Act.put, List.setIfInBounds_toArray, List.set_cons_zero, List.set_cons_succ, i64_w, i32_w]
            rfl
          refine take_ (i := 13) (N := some 58) (v := ?_) (a' := ?_) #[true, true, true, true, true, true, true, true, true, true, true, true, true, true, true, false, false, false, false, false] rfl rfl (take_ofW HT_.out HW_.out (by kernel_rfl)) (fun _ _ _ h => h) (Or.inl ⟨by rfl, ?_⟩) hHeld ?_ ?_
          rotate_left
          · rintro w' ⟨s0, s1, s2, s3⟩
            go_simp
            with_reducible rfl
          rotate_left
          · simp only [Act.put, List.setIfInBounds_toArray, List.set_cons_zero, List.set_cons_succ, i64_w, i32_w]
            rfl
          refine take_ (i := 15) (N := some 60) (v := ?_) (a' := ?_) #[true, true, true, true, true, true, true, true, true, true, true, true, true, true, true, true, false, false, false, false] rfl rfl (take_ofW HT_.out HW_.out (by kernel_rfl)) (fun _ _ _ h => h) (Or.inl ⟨by rfl, ?_⟩) hHeld ?_ ?_
          rotate_left
          · rintro w' ⟨s0, s1, s2, s3⟩
            go_simp
            with_reducible rfl
          rotate_left
          · simp only [Act.put, List.setIfInBounds_toArray, List.set_cons_zero, List.set_cons_succ, i64_w, i32_w]
            rfl
          refine one_ (i := 16) (N := some 61) #[true, true, true, true, true, true, true, true, true, true, true, true, true, true, true, true, true, false, false, false] rfl rfl (one_of HT_.out (by kernel_rfl)) (by decide) (fun K hK => ?_)
          refine value_ (w1 := ?_) (v := ?_) (by rfl) rfl ?_ ?_
          rotate_left 2
          · go_simp
            constructor
            · rfl
            · rfl
          refine hK.out _ _ ⟨cell_al _ z0, cell_al _ z1, cell_al _ z2, cell_al _ z3⟩ (fun hHeld => ?_)
          clear hK K
          refine norm_ (a' := ?_) ?_ ?_
          rotate_left
          · show Act.put _ (some 61) _ = _
            simp only [Act.put, List.setIfInBounds_toArray, List.set_cons_zero, List.set_cons_succ, i64_w, i32_w]
            rfl
          refine one_ (i := 17) (N := some 62) #[true, true, true, true, true, true, true, true, true, true, true, true, true, true, true, true, true, true, false, false] rfl rfl (one_of HT_.out (by kernel_rfl)) (by decide) (fun K hK => ?_)
          refine step_append_lies _ (by rfl) _ _ _ (by rfl) w.heap.size 3 i3 _ 1 8 Try.underlying30 I3.out.1 I3.out.2.1 I3.out.2.2.1 I3.out.2.2.2 rfl (by omega) (.slice A M c0) M X (by rfl) (Ownd.out.alloc _) ⟨w5.heap.size, 0, none⟩ 1 1 [.int .i64 n1] (by rfl) (by rfl) (World.news_of_block (cs := #[.int .i64 n1]) (t := 3) (fr := (0, 0)) (heap_alloc_new w5 _)) (by simp [Value.oneCell']) (by omega) (by simp [maxLen]; omega) (by omega) (by simp; have := sz.out; omega) (w5.heap.size + 1) (by simp) ?_
          intro gg cap W2 hown hgrow hat hlt
          have HP : ∃ v, v = .slice (some ⟨gg, 0, none⟩) (M + 1) cap ∧ W2.heap[gb]? = some (.cells #[.slice (some ⟨g true, 0, none⟩) N N, .slice (some ⟨g false, 0, none⟩) N N] 76 (0, 0)) ∧ Hdr W2 w.heap.size N g val ∧ W2.heap[gx]? = some (.cells #[.int .i64 n0, .int .i64 n1] 44 (0, 0)) ∧ Mid w (W2.setCell ⟨g true, n0, none⟩ v) gb gx N g ⟨n0, n1⟩ (upd val true n0 v) (upd XX true n0 (XX true n0 ++ [(n1 : Int)])) := (HMd.out.alloc (.cells #[.int .i64 n1] 3)).append b0 Ev.out HM1.out.1 (HM1.out.2 ▸ hown) hgrow (by simpa using hat)
          obtain ⟨v, hv, hb2, hh2, hx2, hm2⟩ := HP
          subst hv
          have HM2 := Aside0.mk hm2
          have s3 : W2.cell? ⟨g true, n0, none⟩ = some (.slice A M c0) := (hh2.cell true b0).trans (congrArg some Ev.out)
          have f3 := hh2.frozen true n0
          have q0 : W2.cell? ⟨gb, 0, none⟩ = some (.slice (some ⟨g true, 0, none⟩) N N) := (blk_cell hb2 0).trans rfl
          have q1 : W2.cell? ⟨gx, 0, none⟩ = some (.int .i64 n0) := (blk_cell hx2 0).trans rfl
          have q2 : W2.cell? ⟨gx, 1, none⟩ = some (.int .i64 n1) := (blk_cell hx2 1).trans rfl
          clear hown hgrow hat hlt hb2 hh2 hx2 hm2
          refine hK.out _ _ ⟨q0, q1, q2, s3⟩ (fun hHeld => ?_)
          clear hK K
          refine norm_ (a' := ?_) ?_ ?_
          rotate_left
          · show Act.put _ (some 62) _ = _
            simp only [Act.put, List.setIfInBounds_toArray, List.set_cons_zero, List.set_cons_succ, i64_w, i32_w]
            rfl
          refine pure_ (i := 18) (N := some 63) (v := ?_) (a' := ?_) #[true, true, true, true, true, true, true, true, true, true, true, true, true, true, true, true, true, true, true, false] rfl rfl (any_of HT_.out (by kernel_rfl)) (fun _ _ _ h => h) (Or.inl ⟨by rfl, ?_⟩) ?_ ?_
          rotate_left
          · intro w'
            go_simp
            with_reducible rfl
          rotate_left
          · simp only [Act.put, List.setIfInBounds_toArray, List.set_cons_zero, List.set_cons_succ, i64_w, i32_w]
            rfl
          refine last_ (i := 19) (N := none) #[true, true, true, true, true, true, true, true, true, true, true, true, true, true, true, true, true, true, true, true] rfl rfl (one_of HT_.out (by kernel_rfl)) (by decide) (fun K hK => ?_)
          refine skip_ (w1 := ?_) (by rfl) rfl ?_ ?_
          rotate_left
          · go_simp
            rfl
          refine hK.out _ _ ?_
          clear hK K
          refine done_ (done_of HT_.out (by kernel_rfl)) ?_

          all_goals
            go_wp2_with fail
            go_meet
            case rel => exact ⟨rfl, ⟨_, ⟨HM2.out⟩⟩⟩
        case rest =>
          clear HM
          obtain ⟨rfl, v1, HM⟩ := hcut
          obtain ⟨val0, hval0⟩ : ∃ z, z = upd val true n0 v1 := ⟨_, rfl⟩
          obtain ⟨XX0, hXX0⟩ : ∃ z, z = upd XX true n0 (XX true n0 ++ [(n1 : Int)]) := ⟨_, rfl⟩
          rw [← hval0, ← hXX0] at HM
          have HLX0 := Aside0.mk (show (XX0 false n1).length ≤ 65535 by rw [hXX0, upd_ne _ _ _ _ (by simp)]; exact HLX.out false n1)
          have HXX0 := Aside0.mk hXX0
          clear hval0 hXX0 HLX
          go_upto_region 12 with fail
          obtain ⟨A, c0, ev⟩ := row_form (HM.out.hr.own false n1 b1)
          have own := HM.out.hr.own false n1 b1
          have z0 : wc.cell? ⟨gb, 1, none⟩ = some (.slice (some ⟨g false, 0, none⟩) N N) := (blk_cell HM.out.hb 1).trans rfl
          have z1 : wc.cell? ⟨gx, 0, none⟩ = some (.int .i64 n0) := (blk_cell HM.out.bx 0).trans rfl
          have z2 : wc.cell? ⟨gx, 1, none⟩ = some (.int .i64 n1) := (blk_cell HM.out.bx 1).trans rfl
          have z3 := HM.out.hh.cell false b1
          rw [ev] at own z3
          have LX := Aside0.mk (show (XX0 false n1).length ≤ 65536 from Nat.le_trans (HLX0.out) (by decide))
          obtain ⟨M, hM⟩ : ∃ M, M = (XX0 false n1).length := ⟨_, rfl⟩
          obtain ⟨X, hX⟩ : ∃ X, X = (XX0 false n1).map (Value.int .i64) := ⟨_, rfl⟩
          have LM : M ≤ 65536 := by rw [hM]; exact LX.out
          rw [← hM] at own z3 ev
          rw [← hX] at own
          have HM1 := Aside0.mk (And.intro hM hX)
          have Ev := Aside0.mk ev
          have Own := Aside0.mk own
          have sz := Aside0.mk (below_size HM.out.bel)
          have y0 := fun o => cell_al o z0
          have y1 := fun o => cell_al o z1
          have y2 := fun o => cell_al o z2
          have y3 := fun o => cell_al o z3
          clear hM hX ev own
          have HMd := Aside0.mk HM.out.drew
          have Ownd := Aside0.mk (show World.ownsRow wc.drew w.heap.size 3 1 (.slice A M c0) M X from Own.out)
          replace z0 : wc.drew.cell? ⟨gb, 1, none⟩ = some (.slice (some ⟨g false, 0, none⟩) N N) := z0
          replace z1 : wc.drew.cell? ⟨gx, 0, none⟩ = some (.int .i64 n0) := z1
          replace z2 : wc.drew.cell? ⟨gx, 1, none⟩ = some (.int .i64 n1) := z2
          replace z3 : wc.drew.cell? ⟨g false, n1, none⟩ = some (.slice A M c0) := z3
          clear y0 y1 y2 y3 HM Own sz
          refine start_ (n := 20) (S := fun w' => w'.cell? ⟨gb, 1, none⟩ = some (.slice (some ⟨g false, 0, none⟩) N N) ∧ w'.cell? ⟨gx, 0, none⟩ = some (.int .i64 n0) ∧ w'.cell? ⟨gx, 1, none⟩ = some (.int .i64 n1) ∧ w'.cell? ⟨g false, n1, none⟩ = some (.slice A M c0)) (ds := [19]) #[false, false, false, false, false, false, false, false, false, false, false, false, false, false, false, false, false, false, false, false] (by kernel_rfl) rfl rfl ⟨z0, z1, z2, z3⟩ (fun hHeld => ?_)
          refine with_tabW NewR.tab12 NewR.bits12 (fun HT_ HW_ => ?_)
          generalize wc.drew = w5 at z0 z1 z2 z3 HMd Ownd hHeld ⊢
          have sz := Aside0.mk (below_size HMd.out.bel)
          refine pure_ (i := 0) (N := some 64) (v := ?_) (a' := ?_) #[true, false, false, false, false, false, false, false, false, false, false, false, false, false, false, false, false, false, false, false] rfl rfl (any_of HT_.out (by kernel_rfl)) (fun _ _ _ h => h) (Or.inl ⟨by rfl, ?_⟩) ?_ ?_
          rotate_left
          · intro w'
            go_simp
            with_reducible rfl
          rotate_left
          · simp only [Act.put, List.setIfInBounds_toArray, List.set_cons_zero, List.set_cons_succ, i64_w, i32_w]
            rfl
          refine pure_ (i := 1) (N := some 65) (v := ?_) (a' := ?_) #[true, true, false, false, false, false, false, false, false, false, false, false, false, false, false, false, false, false, false, false] rfl rfl (any_of HT_.out (by kernel_rfl)) (fun _ _ _ h => h) (Or.inl ⟨by rfl, ?_⟩) ?_ ?_
          rotate_left
          · intro w'
            go_simp
            with_reducible rfl
          rotate_left
          · simp only [Act.put, List.setIfInBounds_toArray, List.set_cons_zero, List.set_cons_succ, i64_w, i32_w]
            rfl
          refine pure_ (i := 2) (N := some 66) (v := ?_) (a' := ?_) #[true, true, true, false, false, false, false, false, false, false, false, false, false, false, false, false, false, false, false, false] rfl rfl (any_of HT_.out (by kernel_rfl)) (fun _ _ _ h => h) (Or.inl ⟨by rfl, ?_⟩) ?_ ?_
          rotate_left
          · intro w'
            go_simp
            with_reducible rfl
          rotate_left
          · simp only [Act.put, List.setIfInBounds_toArray, List.set_cons_zero, List.set_cons_succ, i64_w, i32_w]
            rfl
          refine pure_ (i := 4) (N := some 68) (v := ?_) (a' := ?_) #[true, true, true, false, true, false, false, false, false, false, false, false, false, false, false, false, false, false, false, false] rfl rfl (any_of HT_.out (by kernel_rfl)) (fun _ _ _ h => h) (Or.inl ⟨by rfl, ?_⟩) ?_ ?_
          rotate_left
          · intro w'
            go_simp
            with_reducible rfl
          rotate_left
          · simp only [Act.put, List.setIfInBounds_toArray, List.set_cons_zero, List.set_cons_succ, i64_w, i32_w]
            rfl
          refine pure_ (i := 6) (N := some 70) (v := ?_) (a' := ?_) #[true, true, true, false, true, false, true, false, false, false, false, false, false, false, false, false, false, false, false, false] rfl rfl (any_of HT_.out (by kernel_rfl)) (fun _ _ _ h => h) (Or.inl ⟨by rfl, ?_⟩) ?_ ?_
          rotate_left
          · intro w'
            go_simp
            with_reducible rfl
          rotate_left
          · simp only [Act.put, List.setIfInBounds_toArray, List.set_cons_zero, List.set_cons_succ, i64_w, i32_w]
            rfl
          refine pure_ (i := 7) (N := some 71) (v := ?_) (a' := ?_) #[true, true, true, false, true, false, true, true, false, false, false, false, false, false, false, false, false, false, false, false] rfl rfl (any_of HT_.out (by kernel_rfl)) (fun _ _ _ h => h) (Or.inl ⟨by rfl, ?_⟩) ?_ ?_
          rotate_left
          · intro w'
            go_simp
            with_reducible rfl
          rotate_left
          · simp only [Act.put, List.setIfInBounds_toArray, List.set_cons_zero, List.set_cons_succ, i64_w, i32_w]
            rfl
          refine pure_ (i := 8) (N := some 72) (v := ?_) (a' := ?_) #[true, true, true, false, true, false, true, true, true, false, false, false, false, false, false, false, false, false, false, false] rfl rfl (any_of HT_.out (by kernel_rfl)) (fun _ _ _ h => h) (Or.inl ⟨by rfl, ?_⟩) ?_ ?_
          rotate_left
          · intro w'
            go_simp
            with_reducible rfl
          rotate_left
          · simp only [Act.put, List.setIfInBounds_toArray, List.set_cons_zero, List.set_cons_succ, i64_w, i32_w]
            rfl
          refine pure_ (i := 10) (N := some 74) (v := ?_) (a' := ?_) #[true, true, true, false, true, false, true, true, true, false, true, false, false, false, false, false, false, false, false, false] rfl rfl (any_of HT_.out (by kernel_rfl)) (fun _ _ _ h => h) (Or.inl ⟨by rfl, ?_⟩) ?_ ?_
          rotate_left
          · intro w'
            go_simp
            with_reducible rfl
          rotate_left
          · simp only [Act.put, List.setIfInBounds_toArray, List.set_cons_zero, List.set_cons_succ, i64_w, i32_w]
            rfl
          refine pure_ (i := 14) (N := some 78) (v := ?_) (a' := ?_) #[true, true, true, false, true, false, true, true, true, false, true, false, false, false, true, false, false, false, false, false] rfl rfl (any_of HT_.out (by kernel_rfl)) (fun _ _ _ h => h) (Or.inl ⟨by rfl, ?_⟩) ?_ ?_
          rotate_left
          · intro w'
            go_simp
            with_reducible rfl
          rotate_left
          · simp only [Act.put, List.setIfInBounds_toArray, List.set_cons_zero, List.set_cons_succ, i64_w, i32_w]
            rfl
          refine take_ (i := 3) (N := some 67) (v := ?_) (a' := ?_) #[true, true, true, true, true, false, true, true, true, false, true, false, false, false, true, false, false, false, false, false] rfl rfl (take_ofW HT_.out HW_.out (by kernel_rfl)) (fun _ _ _ h => h) (Or.inl ⟨by rfl, ?_⟩) hHeld ?_ ?_
          rotate_left
          · rintro w' ⟨s0, s1, s2, s3⟩
            go_simp
            with_reducible rfl
          rotate_left
          · simp only [Act.put, List.setIfInBounds_toArray, List.set_cons_zero, List.set_cons_succ, i64_w, i32_w]
            rfl
          refine take_ (i := 5) (N := some 69) (v := ?_) (a' := ?_) #[true, true, true, true, true, true, true, true, true, false, true, false, false, false, true, false, false, false, false, false] rfl rfl (take_ofW HT_.out HW_.out (by kernel_rfl)) (fun _ _ _ h => h) (Or.inl ⟨by rfl, ?_⟩) hHeld ?_ ?_
          rotate_left
          · rintro w' ⟨s0, s1, s2, s3⟩
            go_simp
            with_reducible rfl
          rotate_left
          · simp only [Act.put, List.setIfInBounds_toArray, List.set_cons_zero, List.set_cons_succ, i64_w, i32_w]
            rfl
          refine take_ (i := 9) (N := some 73) (v := ?_) (a' := ?_) #[true, true, true, true, true, true, true, true, true, true, true, false, false, false, true, false, false, false, false, false] rfl rfl (take_ofW HT_.out HW_.out (by kernel_rfl)) (fun _ _ _ h => h) (Or.inl ⟨by rfl, ?_⟩) hHeld ?_ ?_
          rotate_left
          · rintro w' ⟨s0, s1, s2, s3⟩
            go_simp
            with_reducible rfl
          rotate_left
          · simp only [Act.put, List.setIfInBounds_toArray, List.set_cons_zero, List.set_cons_succ, i64_w, i32_w]
            rfl
          refine take_ (i := 11) (N := some 75) (v := ?_) (a' := ?_) #[true, true, true, true, true, true, true, true, true, true, true, true, false, false, true, false, false, false, false, false] rfl rfl (take_ofW HT_.out HW_.out (by kernel_rfl)) (fun _ _ _ h => h) (Or.inl ⟨by rfl, ?_⟩) hHeld ?_ ?_
          rotate_left
          · rintro w' ⟨s0, s1, s2, s3⟩
            go_simp
            with_reducible rfl
          rotate_left
          · simp only [Act.put, List.setIfInBounds_toArray, List.set_cons_zero, List.set_cons_succ, i64_w, i32_w]
            rfl
          refine pure_ (i := 12) (N := some 76) (v := ?_) (a' := ?_) #[true, true, true, true, true, true, true, true, true, true, true, true, true, false, true, false, false, false, false, false] rfl rfl (any_of HT_.out (by kernel_rfl)) (fun _ _ _ h => h) (Or.inl ⟨by rfl, ?_⟩) ?_ ?_
          rotate_left
          · intro w'
            go_simp
            with_reducible rfl
          rotate_left
          · simp only [Act.put, List.setIfInBounds_toArray, List.set_cons_zero, List.set_cons_succ, i64_w, i32_w]
            rfl
          refine take_ (i := 13) (N := some 77) (v := ?_) (a' := ?_) #[true, true, true, true, true, true, true, true, true, true, true, true, true, true, true, false, false, false, false, false] rfl rfl (take_ofW HT_.out HW_.out (by kernel_rfl)) (fun _ _ _ h => h) (Or.inl ⟨by rfl, ?_⟩) hHeld ?_ ?_
          rotate_left
          · rintro w' ⟨s0, s1, s2, s3⟩
            go_simp
            with_reducible rfl
          rotate_left
          · simp only [Act.put, List.setIfInBounds_toArray, List.set_cons_zero, List.set_cons_succ, i64_w, i32_w]
            rfl
          refine take_ (i := 15) (N := some 79) (v := ?_) (a' := ?_) #[true, true, true, true, true, true, true, true, true, true, true, true, true, true, true, true, false, false, false, false] rfl rfl (take_ofW HT_.out HW_.out (by kernel_rfl)) (fun _ _ _ h => h) (Or.inl ⟨by rfl, ?_⟩) hHeld ?_ ?_
          rotate_left
          · rintro w' ⟨s0, s1, s2, s3⟩
            go_simp
            with_reducible rfl
          rotate_left
          · simp only [Act.put, List.setIfInBounds_toArray, List.set_cons_zero, List.set_cons_succ, i64_w, i32_w]
            rfl
          refine one_ (i := 16) (N := some 80) #[true, true, true, true, true, true, true, true, true, true, true, true, true, true, true, true, true, false, false, false] rfl rfl (one_of HT_.out (by kernel_rfl)) (by decide) (fun K hK => ?_)
          refine value_ (w1 := ?_) (v := ?_) (by rfl) rfl ?_ ?_
          rotate_left 2
          · go_simp
            constructor
            · rfl
            · rfl
          refine hK.out _ _ ⟨cell_al _ z0, cell_al _ z1, cell_al _ z2, cell_al _ z3⟩ (fun hHeld => ?_)
          clear hK K
          refine norm_ (a' := ?_) ?_ ?_
          rotate_left
          · show Act.put _ (some 80) _ = _
            simp only [Act.put, List.setIfInBounds_toArray, List.set_cons_zero, List.set_cons_succ, i64_w, i32_w]
            rfl
          refine one_ (i := 17) (N := some 81) #[true, true, true, true, true, true, true, true, true, true, true, true, true, true, true, true, true, true, false, false] rfl rfl (one_of HT_.out (by kernel_rfl)) (by decide) (fun K hK => ?_)
          refine step_append_lies _ (by rfl) _ _ _ (by rfl) w.heap.size 3 i3 _ 1 8 Try.underlying30 I3.out.1 I3.out.2.1 I3.out.2.2.1 I3.out.2.2.2 rfl (by omega) (.slice A M c0) M X (by rfl) (Ownd.out.alloc _) ⟨w5.heap.size, 0, none⟩ 1 1 [.int .i64 n0] (by rfl) (by rfl) (World.news_of_block (cs := #[.int .i64 n0]) (t := 3) (fr := (0, 0)) (heap_alloc_new w5 _)) (by simp [Value.oneCell']) (by omega) (by simp [maxLen]; omega) (by omega) (by simp; have := sz.out; omega) (w5.heap.size + 1) (by simp) ?_
          intro gg cap W4 hown hgrow hat hlt
          have HP : ∃ v, v = .slice (some ⟨gg, 0, none⟩) (M + 1) cap ∧ W4.heap[gb]? = some (.cells #[.slice (some ⟨g true, 0, none⟩) N N, .slice (some ⟨g false, 0, none⟩) N N] 76 (0, 0)) ∧ Hdr W4 w.heap.size N g val0 ∧ W4.heap[gx]? = some (.cells #[.int .i64 n0, .int .i64 n1] 44 (0, 0)) ∧ Mid w (W4.setCell ⟨g false, n1, none⟩ v) gb gx N g ⟨n0, n1⟩ (upd val0 false n1 v) (upd XX0 false n1 (XX0 false n1 ++ [(n0 : Int)])) := (HMd.out.alloc (.cells #[.int .i64 n0] 3)).append b1 Ev.out HM1.out.1 (HM1.out.2 ▸ hown) hgrow (by simpa using hat)
          obtain ⟨v, hv, hb2, hh2, hx2, hm2⟩ := HP
          subst hv
          have HM2 := Aside0.mk hm2
          have s3 : W4.cell? ⟨g false, n1, none⟩ = some (.slice A M c0) := (hh2.cell false b1).trans (congrArg some Ev.out)
          have f3 := hh2.frozen false n1
          have q0 : W4.cell? ⟨gb, 1, none⟩ = some (.slice (some ⟨g false, 0, none⟩) N N) := (blk_cell hb2 1).trans rfl
          have q1 : W4.cell? ⟨gx, 0, none⟩ = some (.int .i64 n0) := (blk_cell hx2 0).trans rfl
          have q2 : W4.cell? ⟨gx, 1, none⟩ = some (.int .i64 n1) := (blk_cell hx2 1).trans rfl
          clear hown hgrow hat hlt hb2 hh2 hx2 hm2
          refine hK.out _ _ ⟨q0, q1, q2, s3⟩ (fun hHeld => ?_)
          clear hK K
          refine norm_ (a' := ?_) ?_ ?_
          rotate_left
          · show Act.put _ (some 81) _ = _
            simp only [Act.put, List.setIfInBounds_toArray, List.set_cons_zero, List.set_cons_succ, i64_w, i32_w]
            rfl
          refine pure_ (i := 18) (N := some 82) (v := ?_) (a' := ?_) #[true, true, true, true, true, true, true, true, true, true, true, true, true, true, true, true, true, true, true, false] rfl rfl (any_of HT_.out (by kernel_rfl)) (fun _ _ _ h => h) (Or.inl ⟨by rfl, ?_⟩) ?_ ?_
          rotate_left
          · intro w'
            go_simp
            with_reducible rfl
          rotate_left
          · simp only [Act.put, List.setIfInBounds_toArray, List.set_cons_zero, List.set_cons_succ, i64_w, i32_w]
            rfl
          refine last_ (i := 19) (N := none) #[true, true, true, true, true, true, true, true, true, true, true, true, true, true, true, true, true, true, true, true] rfl rfl (one_of HT_.out (by kernel_rfl)) (by decide) (fun K hK => ?_)
          refine skip_ (w1 := ?_) (by rfl) rfl ?_ ?_
          rotate_left
          · go_simp
            rfl
          refine hK.out _ _ ?_
          clear hK K
          refine done_ (done_of HT_.out (by kernel_rfl)) ?_

          all_goals
            go_wp2_with fail
            go_roundg k1
            case measure => omega
            case rel => exact ⟨i + 1, by go_num, by omega, ⟨⟨⟨g, _, HM2.out.hb, HM2.out.hh, by rw [← ends_upd es i n0 n1 Hx.out, ← HXX.out, ← HXX0.out]; exact HM2.out.hr⟩, HM2.out.bel⟩⟩⟩
end Go.Proofs.Ythkgfmjgilkdeaa
