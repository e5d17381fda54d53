/- Lists of integers and events that come in, opened. Conditions: none. -/
import Derived.Test.YticliabmhgofjaaCloseG
import Derived.Test.YticliabmhgofjaaR1
namespace Go.Proofs.Yticliabmhgofjaa
open Go.ChangeShapes Go.WideShapes Go.ChangeAt Go.RowKit

section
variable {H : Type} {enc : TypeId × Value → H} {P : Program} {W : World} {sp : Nat → Bool} {hd : Bool}
theorem open_Ints {t e : TypeId} {fuel : Nat} {cs : List Value} {x : DataW H × List MemPlace} (ht : P.underlying t = some (.slice e)) (he : P.underlying e = some (.int .i64)) (hc : P.cellsOf e = 1)
    (h : DataW.trod enc P W 0 sp hd fuel t cs = some x) : ∃ v l, cs = [v] ∧ Ints W v l := by
  rcases open_ints ht he hc h with ⟨rfl, _⟩ | ⟨a, len, cap, zs, rfl, _, hl, hm, hz, _, hcell, hw⟩
  · exact ⟨_, [], rfl, Ints.nil W⟩
  · have hzl : len ≤ zs.length := by rw [hz]; split <;> omega
    have hlt : (zs.take len).length = len := by simp; omega
    refine ⟨_, zs.take len, rfl, some a, cap, by rw [hlt], by omega, by simp only [maxLen] at hm; omega, (fun h => by cases h), ?_⟩
    by_cases h0 : len = 0
    · left; omega
    · right
      have hsub : a.spot = none := spot_none (a := a.add 0) (hcell 0 (by omega))
      obtain ⟨b, off, s⟩ := a
      simp only at hsub
      subst hsub
      refine ⟨b, off, rfl, trivial, fun i u hu => ?_⟩
      have hi : i < len := by
        have := (List.getElem?_eq_some_iff.1 hu).1
        rw [intC_length] at this; omega
      rw [intC_get (by omega)] at hu
      cases hu
      have h1 := hcell i (by omega)
      rw [Addr.add_lit] at h1
      rw [h1]
      congr 2
      simp [List.getD_eq_getElem?_getD, show i < zs.length by omega]

theorem open_Ev {fuel : Nat} {cs : List Value} {x : DataW H × List MemPlace} (h : DataW.trod enc Try.prog W 0 sp hd fuel 24 cs = some x) : ∃ g b e, cs = [g, b] ∧ EvAt W g b e := by
  have hc : Try.prog.cellsOf 24 = 2 := by kernel_rfl
  have hi : Try.prog.cellsOf 22 = 1 := by kernel_rfl
  have h1 : Try.prog.cellsOf 3 = 1 := by kernel_rfl
  obtain ⟨xs, n, rfl, rfl, hl, hxl, hf⟩ := DataW.trod_struct Try.underlying24 h
  rw [hc] at hl
  obtain ⟨c0, c1, rfl⟩ : ∃ c0 c1, cs = [c0, c1] := by
    match cs, hl with
    | [a, b], _ => exact ⟨a, b, rfl⟩
  have f0 : DataW.trod enc Try.prog W 0 sp hd n 22 ((List.drop 0 [c0, c1]).take (Try.prog.cellsOf 22)) = xs[0]? := hf 0 _ rfl
  have f1 : DataW.trod enc Try.prog W 0 sp hd n 22 ((List.drop 1 [c0, c1]).take (Try.prog.cellsOf 22)) = xs[1]? := hf 1 _ rfl
  have hx2 : xs.length = 2 := hxl
  rw [hi] at f0 f1
  have g0 : xs[0]? = some xs[0] := List.getElem?_eq_getElem (by omega)
  have g1 : xs[1]? = some xs[1] := List.getElem?_eq_getElem (by omega)
  obtain ⟨v0, l0, e0, i0⟩ := open_Ints Try.underlying22 Try.underlying3 h1 (f0.trans g0)
  obtain ⟨v1, l1, e1, i1⟩ := open_Ints Try.underlying22 Try.underlying3 h1 (f1.trans g1)
  have e0' : c0 = v0 := by simpa using e0
  have e1' : c1 = v1 := by simpa using e1
  exact ⟨c0, c1, ⟨l0, l1⟩, rfl, by rw [e0']; exact i0, by rw [e1']; exact i1⟩

theorem open_Evs {fuel : Nat} {cs : List Value} {x : DataW H × List MemPlace} (h : DataW.trod enc Try.prog W 0 sp hd fuel 25 cs = some x) : ∃ v es, cs = [v] ∧ EvsAt W v es := by
  have hc : Try.prog.cellsOf 24 = 2 := by kernel_rfl
  rcases Deep.open_slice Try.underlying25 h with ⟨rfl, _⟩ | ⟨a, len, cap, m, n, D, Pl, rfl, _, hl, hm, hmm, _, hx⟩
  · exact ⟨_, [], rfl, EvsAt.nil W⟩
  · have hml : len ≤ m := by rw [hmm]; split <;> omega
    rw [hc] at hx
    have : Inhabited ((Value × Value) × Evt) := ⟨((.bool true, .bool true), ⟨[], []⟩)⟩
    obtain ⟨L, hL⟩ := Deep.choose_lt (α := (Value × Value) × Evt) (n := m) (p := fun i q => W.cell? (a.add (i * 2)) = some q.1.1 ∧ W.cell? ((a.add (i * 2)).add 1) = some q.1.2 ∧ EvAt W q.1.1 q.1.2 q.2) fun i hi => by
      obtain ⟨cs', h1, h2⟩ := hx i hi
      obtain ⟨g, b, e, rfl, he⟩ := open_Ev h2
      obtain ⟨_, _, h3⟩ := World.cells?_some h1
      exact ⟨((g, b), e), by have := h3 0 (by omega); simpa [Addr.add] using this, by have := h3 1 (by omega); simpa using this, he⟩
    refine ⟨_, (List.range len).map fun i => (L i).2, rfl, (List.range len).map fun i => (L i).1, ⟨some a, cap, by simp, by simp; omega, by simp only [maxLen] at hm; omega, (fun h => by cases h), ?_⟩, by simp, ?_⟩
    · by_cases h0 : len = 0
      · left; simp [h0]
      · right
        have hsub : a.spot = none := spot_none (a := a.add (0 * 2)) (hL 0 (by omega)).1
        obtain ⟨b, off, s⟩ := a
        simp only at hsub
        subst hsub
        refine ⟨b, off, rfl, trivial, fun i u hu => ?_⟩
        have hlt := (List.getElem?_eq_some_iff.1 hu).1
        rw [pairC_length] at hlt
        simp at hlt
        have hq : ((List.range len).map fun i => (L i).1)[i / 2]? = some (L (i / 2)).1 := by
          rw [List.getElem?_map, List.getElem?_range (by omega)]; rfl
        obtain ⟨p1, p2⟩ := pairC_get hq
        obtain ⟨q1, q2, _⟩ := hL (i / 2) (by omega)
        rw [Addr.add_lit] at q1
        rw [Addr.add_lit, Addr.add_lit] at q2
        rcases Nat.mod_two_eq_zero_or_one i with hm2 | hm2
        · have hi2 : i / 2 * 2 = i := by omega
          rw [hi2] at p1 q1
          rw [p1] at hu; cases hu; exact q1
        · have hi2 : i / 2 * 2 + 1 = i := by omega
          rw [hi2] at p2
          rw [p2] at hu; cases hu
          rw [show off + i = off + i / 2 * 2 + 1 by omega]
          exact q2
    · intro i p e hp he
      obtain ⟨h1, rfl⟩ := List.getElem?_eq_some_iff.1 hp
      obtain ⟨_, rfl⟩ := List.getElem?_eq_some_iff.1 he
      simp at h1
      simp only [List.getElem_map, List.getElem_range]
      exact (hL i (by omega)).2.2
end
theorem val_ev {W : World} {r : Reach} {v g b : Value} {base : Nat} (hval : Value.okWide Try.prog W r base 24 v) (h : v.cells.toList = [g, b]) : v = .agg #[g, b] := by
  obtain ⟨cs, rfl, _⟩ := okWide_struct Try.underlying24 hval
  simp only [Value.cells] at h
  rw [← h]
end Go.Proofs.Yticliabmhgofjaa
