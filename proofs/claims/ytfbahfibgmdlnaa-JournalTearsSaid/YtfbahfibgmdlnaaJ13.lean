/- A journal out of payloads, walked. Conditions: none. -/
import Derived.Test.YtfbahfibgmdlnaaJ12
namespace Go.Proofs.Ytfbahfibgmdlnaa
open Go.RowKit
set_option linter.unusedVariables false

/-- what appending answers: the new journal, or the number of the error -/
def app (l p : List UInt8) : List UInt8 × Int :=
  if p.length < 1 ∨ 4000 < p.length then ([], 1) else if 500 ≤ (recs 500 l).1.length then ([], 2) else (l.take (recs 500 l).2 ++ frm p, 0)
theorem app_length (l p : List UInt8) : (app l p).1.length ≤ l.length + 4006 := by
  unfold app
  split
  · simp
  · split
    · simp
    · rw [List.length_append, frm_length, List.length_take]; omega

/-- Append, as one -/
theorem Append_app (v1 v2 : Value) (l p : List UInt8) (w : World) (h1 : BytesAt anyB w v1 l) (h2 : BytesAt anyB w v2 p) (hb : l.length ≤ 140000000000000) :
    Fn Try.prog 13 [v1, v2] w fun v w' => ∃ rv, v = .tuple #[rv, .int .i64 (app l p).2] ∧ w'.ownsRow w.heap.size 5 1 rv (app l p).1.length (cells8 (app l p).1) ∧ Ext w w' := by
  refine Fn.mono (Append_any v1 v2 l p w h1 h2 hb) ?_
  rintro v w' ⟨rv, k, a, b, c⟩
  unfold app
  split
  · rename_i h; rw [a h]; exact ⟨_, rfl, ⟨rfl, .inl ⟨rfl, rfl⟩⟩, k⟩
  · rename_i h
    split
    · rename_i h'; rw [b (by omega) (by omega) h']; exact ⟨_, rfl, ⟨rfl, .inl ⟨rfl, rfl⟩⟩, k⟩
    · rename_i h'
      obtain ⟨rfl, ho⟩ := c (by omega) (by omega) (by omega)
      refine ⟨_, rfl, ?_, k⟩
      have e : (l.take (recs 500 l).2 ++ frm p).length = (recs 500 l).2 + (6 + p.length) := by
        have := recs_le 500 l
        rw [List.length_append, frm_length, List.length_take]; omega
      show w'.ownsRow _ _ _ _ (l.take (recs 500 l).2 ++ frm p).length _
      rw [e]; exact ho
theorem refAppend_app (v1 v2 : Value) (l p : List UInt8) (w : World) (h1 : BytesAt anyB w v1 l) (h2 : BytesAt anyB w v2 p) (hb : l.length ≤ 140000000000000) :
    Fn Try.prog 14 [v1, v2] w fun v w' => ∃ rv, v = .tuple #[rv, .int .i64 (app l p).2] ∧ w'.ownsRow w.heap.size 5 1 rv (app l p).1.length (cells8 (app l p).1) ∧ Ext w w' := by
  refine Fn.mono (refAppend_any v1 v2 l p w h1 h2 hb) ?_
  rintro v w' ⟨rv, k, a, b, c⟩
  unfold app
  split
  · rename_i h; rw [a h]; exact ⟨_, rfl, ⟨rfl, .inl ⟨rfl, rfl⟩⟩, k⟩
  · rename_i h
    split
    · rename_i h'; rw [b (by omega) (by omega) h']; exact ⟨_, rfl, ⟨rfl, .inl ⟨rfl, rfl⟩⟩, k⟩
    · rename_i h'
      obtain ⟨rfl, ho⟩ := c (by omega) (by omega) (by omega)
      refine ⟨_, rfl, ?_, k⟩
      have e : (l.take (recs 500 l).2 ++ frm p).length = (recs 500 l).2 + (6 + p.length) := by
        have := recs_le 500 l
        rw [List.length_append, frm_length, List.length_take]; omega
      show w'.ownsRow _ _ _ _ (l.take (recs 500 l).2 ++ frm p).length _
      rw [e]; exact ho
end Go.Proofs.Ytfbahfibgmdlnaa
