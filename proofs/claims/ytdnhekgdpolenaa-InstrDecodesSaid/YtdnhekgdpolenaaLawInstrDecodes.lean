/- InstrDecodes: the row of the law: whatever the input, the law answers true, and the input reads as it did. -/
import Derived.Test.YtdnhekgdpolenaaRows
import Derived.Test.YtdnhekgdpolenaaQx25
import Derived.Test.YtdnhekgdpolenaaPureInstrDecodes
import Derived.WalkKit
import Derived.ProofKit
import Derived.OpenShut
import Derived.ShutString
import Derived.ChangeOld
import Derived.Below
import Derived.SizedLaws
import Derived.Lib.SmallJoins
import Derived.Laws.IdiomArrays
namespace Go.Proofs.Ytdnhekgdpolenaa.instrDecodes
open Go.ChangeShapes Go.WideShapes Go.ChangeAt Go.RowKit Go.Joins
set_option linter.unusedVariables false
theorem own : ownKnob Try.prog.godebug = none := by kernel_rfl
theorem laidOut : laidOutB Try.prog = true := by kernel_rfl
theorem Try.cells41' : Try.prog.cellsOf 41 = 4 := by kernel_rfl
theorem okWide_arr {P : Program} {w : World} {r : Reach} {base : Nat} {t e : TypeId} {n : Nat} {v : Value} (ht : P.underlying t = some (.array n e)) (h : Value.okWide P w r base t v) : ∃ cs, v = .agg cs ∧ cs.size = P.cellsOf t := by
  simp only [Value.okWide, ht] at h
  obtain ⟨cs, h1, h2, _⟩ := h
  exact ⟨cs, h1, h2⟩
set_option maxRecDepth 100000 in
theorem lifted (os : Os) (started : os.Started) (H : Type) (enc : TypeId × Value → H) :
    ReturnsInHanded {} Try.checked os 8 .any (Rows.instrDecodesSpec.pre6 enc Try.prog Try.f8 Rows.instrDecodesRow.domain false) (Rows.instrDecodesSpec.post enc Try.prog Try.f8 false true false false) := by
  refine returnsInHanded_of_change_sized (C := Try.checked) own started (by kernel_rfl) Try.func8
    (ChangeSpec.witness6 (enc := enc) (C := Try.checked) false ⟨#[], #[.agg #[.int .u8 0, .int .u8 0, .int .u8 0, .int .u8 0]], []⟩ 8 (by kernel_rfl) (by kernel_rfl) (by kernel_rfl) (by kernel_rfl)) ?_
  intro W base args ds gs before hval0 hW hcnd hsz0 _
  have hval : ∀ (j : Nat) t v, Try.f8.params[j]? = some t → args[j]? = some v → Value.okWide Try.prog W .any base t v := hval0
  have hW' := hW
  obtain ⟨p, q, hA0, hV, rfl, hfz, hnd⟩ := hW
  have hA : DataW.TrodAll enc Try.prog W 0 (fun _ => true) true Try.f8.params.toList args.toList ds p := hA0
  rw [Try.params8] at hA hval
  obtain ⟨v0, vs0, d0, ds0, p0, q0, hargs, rfl, rfl, h0, r0⟩ := trodAll_cons hA
  obtain ⟨rfl, rfl, rfl⟩ := trodAll_nil r0
  obtain rfl : args = #[v0] := by cases args; simp_all
  obtain ⟨rfl, rfl⟩ := trodVars_none hV
  have k0 := h0
  have lt0 : ∀ x ∈ p0, x.block < W.heap.size := by obtain ⟨m, hm⟩ := k0; exact DataW.trod_lt m _ _ _ hm
  obtain ⟨cs, rfl, hsz4⟩ := okWide_arr Try.underlying41 (hval 0 41 v0 rfl rfl)
  obtain ⟨c0, c1, c2, c3, rfl⟩ := array4 (hsz4.trans Try.cells41')
  obtain ⟨fuel, hf⟩ := h0
  obtain ⟨y0, y1, y2, y3, m, hx4, hy0, hy1, hy2, hy3⟩ := trod_array4 Try.underlying41 (by kernel_rfl) hf
  obtain ⟨rfl, rfl⟩ := Prod.mk.inj hx4
  obtain ⟨a0, e0, rfl, w0⟩ := DataW.trod_int Try.underlying5 hy0
  obtain ⟨a1, e1, rfl, w1⟩ := DataW.trod_int Try.underlying5 hy1
  obtain ⟨a2, e2, rfl, w2⟩ := DataW.trod_int Try.underlying5 hy2
  obtain ⟨a3, e3, rfl, w3⟩ := DataW.trod_int Try.underlying5 hy3
  simp only [List.cons.injEq, and_true] at e0 e1 e2 e3
  subst e0 e1 e2 e3
  clear hA0 hval0 hsz0
  obtain ⟨k, hk⟩ := Pure.InstrDecodes a0 a1 a2 a3 w0 w1 w2 w3
  refine (Q.replevinlaw16_InstrDecodes.calls k a0 a1 a2 a3 true W hk).mono fun e W' ⟨he, bel⟩ => ?_
  subst he
  exact ⟨_, rfl, _, _, _, [], _, [], hW', trodAll_mk1 (shut_bool Try.underlying4 _), trodAll_cons_mk (Below.trod laidOut (by kernel_rfl) (of_decide_eq_true (by kernel_rfl)) k0 bel lt0) trodAll_mk0, rfl, bel.frame _, fun h => by cases h⟩
theorem over : Rows.instrDecodesRow.holds Try.pinned (OpenSpec.ofChange Rows.instrDecodesSpec) :=
  OpenClaim.holds_of_wide 8 Try.f8 rfl rfl rfl rfl rfl rfl rfl ⟨rfl, rfl, rfl, rfl, rfl⟩ rfl rfl rfl rfl rfl (by kernel_rfl) Try.func8 (by kernel_rfl)
    (of_decide_eq_true (by kernel_rfl)) (by unfold Func.isWrapper; first | (rw [if_pos (by decide +kernel)]; kernel_rfl) | (rw [if_neg (by decide +kernel)]; exact ⟨rfl, rfl⟩))
    (fun os started H enc _ => lifted os started H enc)
theorem proved : Rows.InstrDecodesSaid := over
#print axioms proved
end Go.Proofs.Ytdnhekgdpolenaa.instrDecodes
namespace Go.Proofs.Ytdnhekgdpolenaa
/-- The row, under a short name, for the claim. -/
theorem instrDecodes_holds : Rows.InstrDecodesSaid := instrDecodes.proved
end Go.Proofs.Ytdnhekgdpolenaa
