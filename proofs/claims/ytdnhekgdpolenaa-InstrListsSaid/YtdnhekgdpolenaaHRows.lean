/- A slice of the reference's instructions, as it came in, read as a list. -/
import Derived.Deep.Slices
import Derived.ChangeSame
import Derived.Test.YtdnhekgdpolenaaQx0
namespace Go.Proofs.Ytdnhekgdpolenaa
set_option linter.unusedVariables false
set_option linter.unusedSimpArgs false
open Go.RowKit Go.ChangeShapes Go.WideShapes Go.Deep Go.Proofs.Ytdnhekgdpolenaa.Q Go.Proofs.YtdnhekgdpolenaaW.PrintWords Go.Proofs.YtdnhekgdpolenaaW.PrintLast
section
variable {H : Type} {enc : TypeId × Value → H} {w : World} {base : Nat} {spare : Nat → Bool} {held : Bool}
set_option maxRecDepth 100000 in
theorem instr_cells {fuel : Nat} {cs : List Value} {x : DataW H × List MemPlace} (hC : Try.prog.cellsOf 23 = 4) (h3 : Try.prog.cellsOf 3 = 1) (h : DataW.trod enc Try.prog w base spare held fuel 23 cs = some x) :
    ∃ s : S23, cs = [.int .i64 s.f0, .int .i64 s.f1, .int .i64 s.f2, .int .i64 s.f3] := by
  obtain ⟨xs, n, _, _, hl, hxl, hf⟩ := DataW.trod_struct Try.underlying23 h
  replace hxl : xs.length = 4 := hxl
  rw [hC] at hl
  match cs, hl with
  | [c0, c1, c2, c3], _ =>
    have e0 : DataW.trod enc Try.prog w base spare held n 3 (([c0, c1, c2, c3].drop 0).take (Try.prog.cellsOf 3)) = xs[0]? := hf 0 _ rfl
    have e1 : DataW.trod enc Try.prog w base spare held n 3 (([c0, c1, c2, c3].drop 1).take (Try.prog.cellsOf 3)) = xs[1]? := hf 1 _ rfl
    have e2 : DataW.trod enc Try.prog w base spare held n 3 (([c0, c1, c2, c3].drop 2).take (Try.prog.cellsOf 3)) = xs[2]? := hf 2 _ rfl
    have e3 : DataW.trod enc Try.prog w base spare held n 3 (([c0, c1, c2, c3].drop 3).take (Try.prog.cellsOf 3)) = xs[3]? := hf 3 _ rfl
    rw [h3] at e0 e1 e2 e3
    obtain ⟨a, ha, -, -⟩ := DataW.trod_int Try.underlying3 (x := xs[0]'(by omega)) (by rw [e0]; exact List.getElem?_eq_getElem (by omega))
    obtain ⟨b, hb, -, -⟩ := DataW.trod_int Try.underlying3 (x := xs[1]'(by omega)) (by rw [e1]; exact List.getElem?_eq_getElem (by omega))
    obtain ⟨c, hc, -, -⟩ := DataW.trod_int Try.underlying3 (x := xs[2]'(by omega)) (by rw [e2]; exact List.getElem?_eq_getElem (by omega))
    obtain ⟨d, hd, -, -⟩ := DataW.trod_int Try.underlying3 (x := xs[3]'(by omega)) (by rw [e3]; exact List.getElem?_eq_getElem (by omega))
    simp at ha hb hc hd
    subst ha hb hc hd
    exact ⟨⟨a, b, c, d⟩, rfl⟩
set_option maxRecDepth 100000 in
theorem instr_rows {fuel : Nat} {A : Option Addr} {len cap : Nat} {x : DataW H × List MemPlace} (hC : Try.prog.cellsOf 23 = 4) (h3 : Try.prog.cellsOf 3 = 1) (hsp : ∀ b, spare b = true)
    (h : DataW.trod enc Try.prog w base spare held fuel 56 [.slice A len cap] = some x) : ∃ l : List S23, l.length = len ∧ len ≤ cap ∧ Kd.C k23 w A l.length l := by
  rcases open_slice Try.underlying56 h with ⟨hcs, _⟩ | ⟨a, l, c, m, n, D, Pl, hcs, _, hl, hm, hmm, _, hx⟩
  · simp at hcs
    obtain ⟨rfl, rfl, rfl⟩ := hcs
    exact ⟨[], rfl, Nat.le_refl _, Kd.C_nil _ _⟩
  · simp at hcs
    obtain ⟨rfl, rfl, rfl⟩ := hcs
    rw [hsp] at hmm
    simp only [if_true] at hmm
    have hi : ∀ i, i < len → ∃ s : S23, ∀ (j : Nat) (u : Value), [Value.int .i64 s.f0, .int .i64 s.f1, .int .i64 s.f2, .int .i64 s.f3][j]? = some u → w.cell? (a.add (i * 4 + j)) = some u := by
      intro i hi
      obtain ⟨cs, h1, h2⟩ := hx i (by omega)
      rw [hC] at h1
      obtain ⟨s, rfl⟩ := instr_cells hC h3 h2
      obtain ⟨_, _, hc⟩ := World.cells?_some h1
      refine ⟨s, fun j u hj => ?_⟩
      have hj4 : j < 4 := by
        have := (List.getElem?_eq_some_iff.1 hj).1
        simpa using this
      rw [← hj, ← hc j hj4]
      rw [Go.Deep.add_add]
    have : Inhabited S23 := ⟨z23⟩
    obtain ⟨f, hf⟩ := choose_lt hi
    refine ⟨(List.range len).map f, by simp, hl, by simp, ?_, fun _ => ⟨a, rfl, fun j p hj => ?_⟩⟩
    · have : maxLen ≤ 9223372036854775807 := Nat.le_refl _
      simp
      omega
    · obtain ⟨hjl, rfl⟩ : j < len ∧ p = f j := by
        rw [List.getElem?_map] at hj
        by_cases hjl : j < len
        · rw [List.getElem?_range hjl] at hj
          simp at hj
          exact ⟨hjl, hj.symm⟩
        · rw [List.getElem?_eq_none (by simp; omega)] at hj
          simp at hj
      exact ⟨_, rfl, k23_mk w (f j), hf j hjl⟩
end
end Go.Proofs.Ytdnhekgdpolenaa
