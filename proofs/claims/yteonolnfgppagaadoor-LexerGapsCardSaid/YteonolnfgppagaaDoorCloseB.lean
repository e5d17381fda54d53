/- Bytes that come in, opened. Conditions: none. -/
import Derived.Test.YteonolnfgppagaaDoorCloseG
namespace Go.Proofs.YteonolnfgppagaaDoor
open Go.ChangeShapes Go.WideShapes Go.ChangeAt Go.RowKit
open Go.ChangeMaps (open_string)

section
variable {H : Type} {enc : TypeId × Value → H} {P : Program} {W : World} {sp : Nat → Bool} {hd : Bool}

theorem cells8_of (zs : List Int) (h : ∀ n ∈ zs, (Lit.int .u8 n).wf = true) : ∃ l : List UInt8, l.length = zs.length ∧ ∀ i, i < zs.length → Value.int .u8 (zs.getD i 0) = enc8 (l.getD i 0) := by
  refine ⟨zs.map fun n => UInt8.ofNat n.toNat, by simp, fun i hi => ?_⟩
  have := h zs[i] (List.getElem_mem hi)
  have hx : 0 ≤ zs[i] ∧ zs[i] ≤ 255 := by simpa [Lit.wf, IntKind.min, IntKind.max, IntKind.signed, IntKind.bits] using this
  simp only [enc8, List.getD_eq_getElem?_getD, List.getElem?_map, List.getElem?_eq_getElem hi, Option.map_some, Option.getD_some, UInt8.toNat_ofNat']
  congr 1
  omega

theorem open_bytes {t e : TypeId} {fuel : Nat} {cs : List Value} {x : DataW H × List MemPlace} (ht : P.underlying t = some (.slice e)) (he : P.underlying e = some (.int .u8)) (hc : P.cellsOf e = 1)
    (h : DataW.trod enc P W 0 sp hd fuel t cs = some x) : ∃ v l, cs = [v] ∧ BytesAt anyB W v l := by
  rcases open_ints ht he hc h with ⟨rfl, _⟩ | ⟨a, len, cap, zs, rfl, _, hl, hm, hz, _, hcell, hw⟩
  · exact ⟨_, [], rfl, none, 0, rfl, Nat.le_refl _, by omega, fun _ => rfl, .inl rfl⟩
  · obtain ⟨l, hll, hli⟩ := cells8_of zs hw
    have hzl : len ≤ zs.length := by rw [hz]; split <;> omega
    refine ⟨_, l.take len, rfl, some a, cap, ?_, ?_, ?_, (fun h => by cases h), ?_⟩
    · simp; omega
    · simp; omega
    · simp only [maxLen] at hm; omega
    · by_cases h0 : len = 0
      · left; simp [h0]
      · right
        have hsub : a.spot = none := by
          exact spot_none (a := a.add 0) (hcell 0 (by omega))
        obtain ⟨b, off, s⟩ := a
        simp only at hsub
        subst hsub
        refine ⟨b, off, rfl, trivial, fun i u hu => ?_⟩
        have hi : i < len := by
          have := (List.getElem?_eq_some_iff.1 hu).1
          rw [cells8_length] at this; simp at this; omega
        rw [cells8_get (by simp; omega)] at hu
        cases hu
        have h1 := hcell i (by omega)
        rw [Addr.add_lit, hli i (by omega)] at h1
        rw [h1]
        congr 2
        simp [List.getD_eq_getElem?_getD, hi]

end
end Go.Proofs.YteonolnfgppagaaDoor
