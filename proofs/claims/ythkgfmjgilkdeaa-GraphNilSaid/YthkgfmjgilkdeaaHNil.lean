/- The nil graph. -/
import Derived.Test.YthkgfmjgilkdeaaMG
import Derived.Test.YthkgfmjgilkdeaaME
namespace Go.Proofs.Ythkgfmjgilkdeaa
set_option linter.unusedVariables false
set_option linter.unusedSimpArgs false
open Go.RowKit Go.Shelf Go.Proofs.Ythkgfmjgilkdeaa.Q Go.Proofs.YthkgfmjgilkdeaaW.PrintWords Go.Proofs.YthkgfmjgilkdeaaW.PrintLast Go.Proofs.YthkgfmjgilkdeaaW.PrintMore
theorem nil20 (w : World) : Calls Try.prog 20 #[.pointer none] w fun e w' => e = .returned (.int .i64 0) ∧ Below w.heap.size w w' := by
  have HB := Aside0.mk (Below.refl w.heap.size w)
  go_enter Try.func20, Try.ntmps20
  go_wp2
  go_ret
  exact ⟨rfl, by repeat (first | exact HB.out | apply pw_below_drewN | apply below_drew1)⟩
theorem nil37 (i : Int) (w : World) : Calls Try.prog 37 #[.pointer none, .int .i64 i] w fun e w' => e = .returned (.bool false) ∧ Below w.heap.size w w' := by
  have HB := Aside0.mk (Below.refl w.heap.size w)
  by_cases h : 0 ≤ i
  · have h1 := eq_true h
    have h2 : (i < 0) = False := eq_false (by omega)
    clear h
    go_enter Try.func37, Try.ntmps37
    go_wp2_with (go_at_call 20; refine (nil20 _).mono ?_; rintro e w1 ⟨rfl, hb⟩; have HB1 := Aside0.mk (below_step (by repeat (first | exact HB.out | apply pw_below_drewN | apply below_drew1)) hb); clear hb)
    go_ret
    exact ⟨rfl, HB1.out⟩
  · have h1 := eq_false h
    clear h
    go_enter Try.func37, Try.ntmps37
    go_wp2_with fail
    go_ret
    exact ⟨rfl, by repeat (first | exact HB.out | apply pw_below_drewN | apply below_drew1)⟩
set_option maxHeartbeats 2000000 in
set_option maxRecDepth 100000 in
theorem nil14 (i : Int) (w : World) : Calls Try.prog 14 #[.pointer none, .int .i64 i] w fun e w' => e = .returned (.slice none 0 0) ∧ Below w.heap.size w w' := by
  go_enter Try.func14, Try.ntmps14
  go_wp2_with (go_at_call 37; refine (nil37 _ _).mono ?_; rintro e w1 ⟨rfl, hb⟩; have HB1 := Aside0.mk hb; clear hb)
  go_ret
  exact ⟨rfl, HB1.out⟩
set_option maxHeartbeats 2000000 in
set_option maxRecDepth 100000 in
theorem nil16 (i : Int) (w : World) : Calls Try.prog 16 #[.pointer none, .int .i64 i] w fun e w' => e = .returned (.slice none 0 0) ∧ Below w.heap.size w w' := by
  go_enter Try.func16, Try.ntmps16
  go_wp2_with (go_at_call 37; refine (nil37 _ _).mono ?_; rintro e w1 ⟨rfl, hb⟩; have HB1 := Aside0.mk hb; clear hb)
  go_ret
  exact ⟨rfl, HB1.out⟩
set_option maxHeartbeats 2000000 in
set_option maxRecDepth 100000 in
theorem nil18 (i j : Int) (w : World) : Calls Try.prog 18 #[.pointer none, .int .i64 i, .int .i64 j] w fun e w' => e = .returned (.bool false) ∧ Below w.heap.size w w' := by
  go_enter Try.func18, Try.ntmps18
  go_wp2_with (go_at_call 37; refine (nil37 _ _).mono ?_; rintro e w1 ⟨rfl, hb⟩; have HB1 := Aside0.mk hb; clear hb)
  go_ret
  exact ⟨rfl, HB1.out⟩
set_option maxHeartbeats 2000000 in
set_option maxRecDepth 100000 in
theorem nil19 (w : World) : Calls Try.prog 19 #[.pointer none] w fun e w' => e = .returned (.pointer none) ∧ Below w.heap.size w w' := by
  have HB := Aside0.mk (Below.refl w.heap.size w)
  go_enter Try.func19, Try.ntmps19
  go_wp2
  go_ret
  exact ⟨rfl, by repeat (first | exact HB.out | apply pw_below_drewN | apply below_drew1 | apply below_alloc)⟩
set_option maxHeartbeats 2000000 in
set_option maxRecDepth 100000 in
theorem nil22 (w : World) : Calls Try.prog 22 #[.pointer none] w fun e w' => e = .returned (.slice none 0 0) ∧ Below w.heap.size w w' := by
  go_enter Try.func22, Try.ntmps22
  go_wp2_with (go_at_call 20; refine (nil20 _).mono ?_; rintro e w1 ⟨rfl, hb⟩; have HB1 := Aside0.mk hb; clear hb)
  refine wp_loop_rounds 1 ?_
  rw [rounds_succ]
  go_wp2_with fail
  go_ret
  exact ⟨rfl, HB1.out⟩
set_option maxHeartbeats 2000000 in
set_option maxRecDepth 100000 in
theorem nil25 (i j : Int) (w : World) : Calls Try.prog 25 #[.pointer none, .int .i64 i, .int .i64 j] w fun e w' => e = .returned (.tuple #[.slice none 0 0, .bool false]) ∧ Below w.heap.size w w' := by
  have HB := Aside0.mk (Below.refl w.heap.size w)
  go_enter Try.func25, Try.ntmps25
  go_wp2_with (go_at_call 37; refine (nil37 _ _).mono ?_; rintro e w1 ⟨rfl, hb⟩; have HB1 := Aside0.mk (below_step (by repeat (first | exact HB.out | apply pw_below_drewN | apply below_drew1 | apply below_alloc)) hb); clear hb)
  go_ret2
  exact ⟨rfl, HB1.out⟩
set_option maxHeartbeats 2000000 in
set_option maxRecDepth 100000 in
theorem nil26 (w : World) : Calls Try.prog 26 #[.pointer none] w fun e w' => e = .returned (.tuple #[.slice none 0 0, .bool false]) ∧ Below w.heap.size w w' := by
  have HB := Aside0.mk (Below.refl w.heap.size w)
  go_enter Try.func26, Try.ntmps26
  go_wp2
  go_ret2
  exact ⟨rfl, by repeat (first | exact HB.out | apply pw_below_drewN | apply below_drew1 | apply below_alloc)⟩
set_option maxHeartbeats 2000000 in
set_option maxRecDepth 100000 in
theorem nil28 (A B : Option Addr) (n c m d : Nat) (w : World) : Calls Try.prog 28 #[.pointer none, .slice A n c, .slice B m d] w fun e w' => e = .returned (.slice none 0 0) ∧ Below w.heap.size w w' := by
  have HB := Aside0.mk (Below.refl w.heap.size w)
  go_enter Try.func28, Try.ntmps28
  go_wp2
  go_ret
  exact ⟨rfl, by repeat (first | exact HB.out | apply pw_below_drewN | apply below_drew1 | apply below_alloc)⟩
set_option maxHeartbeats 2000000 in
set_option maxRecDepth 100000 in
theorem nil29 (w : World) : Calls Try.prog 29 #[.pointer none] w fun e w' => e = .returned (.slice none 0 0) ∧ Below w.heap.size w w' := by
  have HB := Aside0.mk (Below.refl w.heap.size w)
  refine (callsIn_wide (n := 9)).1 ?_
  refine callsIn_of_wp_marks Try.func29 rfl trivial ?_ rfl
  refine wpIn_wide.2 ?_
  simp only [Try.ntmps29, List.size_toArray, List.length_cons, List.length_nil, Nat.reduceAdd, Nat.reduceSub, Array.replicate_succ, Array.replicate_zero, List.push_toArray, List.append_toArray, List.nil_append, List.cons_append]
  go_wp2
  refine ⟨_, results_tmp rfl _ _ _, rfl, ?_⟩
  repeat (first | exact HB.out | apply pw_below_drewN | apply below_drew1 | apply below_alloc)
set_option maxHeartbeats 2000000 in
set_option maxRecDepth 100000 in
theorem nil24a (w : World) : Calls Try.prog 24 #[.pointer none, .pointer none] w fun e w' => e = .returned (.bool true) ∧ Below w.heap.size w w' := by
  have HB := Aside0.mk (Below.refl w.heap.size w)
  go_enter Try.func24, Try.ntmps24
  go_wp2
  go_ret
  exact ⟨rfl, by repeat (first | exact HB.out | apply pw_below_drewN | apply below_drew1 | apply below_alloc)⟩
set_option maxHeartbeats 2000000 in
set_option maxRecDepth 100000 in
theorem nil24b (b : Nat) (w : World) : Calls Try.prog 24 #[.pointer (some ⟨b, 0, none⟩), .pointer none] w fun e w' => e = .returned (.bool false) ∧ Below w.heap.size w w' := by
  have HB := Aside0.mk (Below.refl w.heap.size w)
  go_enter Try.func24, Try.ntmps24
  go_wp2
  go_ret
  exact ⟨rfl, by repeat (first | exact HB.out | apply pw_below_drewN | apply below_drew1 | apply below_alloc)⟩
set_option maxHeartbeats 2000000 in
set_option maxRecDepth 100000 in
theorem nil24c (b : Nat) (w : World) : Calls Try.prog 24 #[.pointer none, .pointer (some ⟨b, 0, none⟩)] w fun e w' => e = .returned (.bool false) ∧ Below w.heap.size w w' := by
  have HB := Aside0.mk (Below.refl w.heap.size w)
  have he : ∀ W : World, (binOp .eql 24 (.pointer none) (.pointer (some ⟨b, 0, none⟩))).run Try.prog W = Result.ok (Value.bool false) W := fun W => by rfl
  go_enter Try.func24, Try.ntmps24
  go_wp2
  go_ret
  exact ⟨rfl, by repeat (first | exact HB.out | apply pw_below_drewN | apply below_drew1 | apply below_alloc)⟩
set_option maxHeartbeats 2000000 in
set_option maxRecDepth 100000 in
theorem nil48 (f : Nat) (S : Nat) (w : World) : Calls Try.prog 48 #[.pointer none, .func (.func f) #[] #[.pointer (some ⟨S, 0, none⟩)]] w fun e w' => e = .returned (.slice none 0 0) ∧ Below w.heap.size w w' := by
  go_enter Try.func48, Try.ntmps48
  go_wp2_with (go_at_call 20; refine (nil20 _).mono ?_; rintro e w1 ⟨rfl, hb⟩; have HB1 := Aside0.mk hb; clear hb)
  refine wp_loop_rounds 1 ?_
  rw [rounds_succ]
  go_wp2_with fail
  refine ⟨rfl, ⟨_, results_tmp rfl _ _ _, ?_⟩⟩
  exact ⟨rfl, HB1.out⟩
set_option maxHeartbeats 4000000 in
set_option maxRecDepth 100000 in
theorem nil47 (A : Option Addr) (x : Int) (w : World) (hx : kI.C w A 1 [x]) : Calls Try.prog 47 #[.pointer none, .slice A 1 1] w fun e w' => ∃ S, e = .returned (.slice (some ⟨S, 0, none⟩) 0 0) ∧ Below w.heap.size w w' := by
  have HB := Aside0.mk (Below.refl w.heap.size w)
  have HX := Aside0.mk hx
  have hmk : ∀ W : World, (Instr.makeSlice 83 (.int .i64 0) (.int .i64 0)).run Try.prog W = .ok (.slice (some ⟨W.heap.size, 0, none⟩) 0 0) (W.alloc (.cells (bools []) 4)) := fun W => make83 0 (by omega) W
  clear hx
  go_enter Try.func47, Try.ntmps47
  go_wp2_with (go_at_call 20; refine (nil20 _).mono ?_; rintro e w1 ⟨rfl, hb⟩; have HZ := Aside0.mk (pw_cell_below (a := ⟨w.heap.size, 0, none⟩) (v := .pointer none) hb (by simp)); have HB1 := Aside0.mk (below_step (by repeat (first | exact HB.out | apply pw_below_drewN | apply below_drew1 | apply below_alloc)) hb); clear hb)
  obtain ⟨ad, e0, hc⟩ := Kd.at_int HX.out 0 (by omega) (by omega)
  subst e0
  have hc1 : w.cell? ad = some (.int .i64 x) := hc
  have z1 := pw_cell_below HB1.out hc1
  have z2 : ∀ o1 o2 o3 : Obj, (((w1.alloc o1).alloc o2).alloc o3).cell? ad = some (.int .i64 x) := fun o1 o2 o3 => pw_cell_below (below_alloc (below_alloc (below_alloc (Below.refl w1.heap.size w1) o1) o2) o3) z1
  have z3 : ∀ o1 o2 o3 : Obj, (((w1.alloc o1).alloc o2).alloc o3).cell? ⟨w.heap.size, 0, none⟩ = some (.pointer none) := fun o1 o2 o3 => pw_cell_below (below_alloc (below_alloc (below_alloc (Below.refl w1.heap.size w1) o1) o2) o3) HZ.out
  have z4 : ∀ o1 o3 : Obj, (((w1.alloc o1).alloc (.cells #[.slice (some ⟨w1.heap.size, 0, none⟩) 0 0] 83)).alloc o3).cell? ⟨w1.heap.size + 1, 0, none⟩ = some (.slice (some ⟨w1.heap.size, 0, none⟩) 0 0) := fun o1 o3 => pw_cell_below (below_alloc (Below.refl _ _) o3) (World.cell?_alloc_at _ _ _ _ (by simp))
  have k1 := eq_true (show (0 : Int) < 1 by omega)
  refine wp_loop_rounds 2 ?_
  rw [rounds_succ]
  go_wp2_with (go_at_call 37; refine (nil37 _ _).mono ?_; rintro e w2 ⟨rfl, hb⟩; have HS := Aside0.mk (pw_cell_below hb (z4 _ _)); have HB2 := Aside0.mk (below_step (by repeat (first | exact HB1.out | apply pw_below_drewN | apply below_drew1 | apply below_alloc)) hb); clear hb)
  rw [rounds_succ]
  have s1 := HS.out
  go_wp2_with fail
  refine ⟨rfl, ⟨_, results_tmp rfl _ _ _, ?_⟩⟩
  exact ⟨_, rfl, HB2.out⟩
set_option maxHeartbeats 4000000 in
set_option maxRecDepth 100000 in
theorem nil27 (A : Option Addr) (x : Int) (w : World) (hx : kI.C w A 1 [x]) : Calls Try.prog 27 #[.pointer none, .slice A 1 1] w fun e w' => e = .returned (.slice none 0 0) ∧ Below w.heap.size w w' := by
  have HB := Aside0.mk (Below.refl w.heap.size w)
  have HX := Aside0.mk hx
  clear hx
  go_enter Try.func27, Try.ntmps27
  go_wp2_with (first | (go_at_call 47; refine (nil47 _ x _ HX.out).mono ?_; rintro e w1 ⟨S, rfl, hb⟩; have HB1 := Aside0.mk hb; clear hb) | (go_at_call 48; refine (nil48 _ _ _).mono ?_; rintro e w2 ⟨rfl, hb⟩; have HB2 := Aside0.mk (below_step (below_alloc HB1.out _) hb); clear hb))
  go_ret
  exact ⟨rfl, HB2.out⟩
end Go.Proofs.Ythkgfmjgilkdeaa
