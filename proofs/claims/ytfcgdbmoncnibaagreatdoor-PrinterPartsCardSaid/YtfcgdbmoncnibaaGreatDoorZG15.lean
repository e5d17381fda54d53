/- Formulas, requirements, specifications and edits that come in, opened. A law's close where the row lists the parser's variables: what the list gives, the witness, the law's step. PrinterParts: for every input the law returns true and each argument reads as it did. Conditions: none. -/
import Derived.Test.YtfcgdbmoncnibaaGreatDoorZG14
import Derived.Test.YtfcgdbmoncnibaaGreatDoorCards
import Derived.Test.YtfcgdbmoncnibaaGreatDoorTie
import Derived.Deep.DeepWitnessRowRef
import Derived.Lib.LaidTab

namespace Go.Proofs.YtfcgdbmoncnibaaGreatDoor
open Go.ChangeShapes Go.WideShapes Go.ChangeAt Go.RowKit
set_option linter.unusedVariables false
theorem lenF {cs : List Value} (h : cs.length = 5) : ∃ c0 c1 c2 c3 c4, cs = [c0, c1, c2, c3, c4] := by
 match cs, h with
 | [a, b, c, d, e], _ => exact ⟨a, b, c, d, e, rfl⟩
theorem lenR {cs : List Value} (h : cs.length = 8) : ∃ c0 c1 c2 d, cs = c0 :: c1 :: c2 :: d ∧ d.length = 5 := by
 match cs, h with
 | a :: b :: c :: d, h => exact ⟨a, b, c, d, rfl, by simpa using h⟩
theorem lenG {cs : List Value} (h : cs.length = 3) : ∃ c0 c1 c2, cs = [c0, c1, c2] := by
 match cs, h with
 | [a, b, c], _ => exact ⟨a, b, c, rfl⟩
theorem lenS {cs : List Value} (h : cs.length = 2) : ∃ c0 c1, cs = [c0, c1] := by
 match cs, h with
 | [a, b], _ => exact ⟨a, b, rfl⟩
theorem cell_eq {w : World} {b i j : Nat} (h : i = j) : w.cell? ⟨b, i, none⟩ = w.cell? ⟨b, j, none⟩ := by rw [h]
section
variable {H : Type} {enc : TypeId × Value → H} {W : World} {sp : Nat → Bool} {hd : Bool}
theorem open_rows {α : Type} [Inhabited α] {t e : TypeId} {c fuel : Nat} {cs : List Value} {x : DataW H × List MemPlace} (Q : List Value → α → Prop) (ht : Tryz.prog.underlying t = some (.slice e)) (hc : Tryz.prog.cellsOf e = c) (h0 : 0 < c)
  (hQ : ∀ (n : Nat) (cs : List Value) (x : DataW H × List MemPlace), n < fuel → DataW.trod enc Tryz.prog W 0 sp hd n e cs = some x → ∃ a, Q cs a) (h : DataW.trod enc Tryz.prog W 0 sp hd fuel t cs = some x) :
  ∃ (a : Option Addr) (k : Nat) (L : List (List Value)) (l : List α), cs = [.slice a l.length k] ∧ Sl A0 W (.slice a l.length k) l.length L.flatten ∧ L.length = l.length ∧ (∀ d ∈ L, d.length = c) ∧ ∀ (i : Nat) (d : List Value) (a : α), L[i]? = some d → l[i]? = some a → Q d a := by
 rcases DataW.trod_slice ht h with ⟨rfl, _⟩ | ⟨a, len, cap, elems, rest, n, rfl, rfl, _, _, hl, hm, hlen, hel, _, _⟩
 ·exact ⟨none, 0, [], [], rfl, ⟨none, 0, rfl, Nat.le_refl _, by omega, fun _ => rfl, .inl rfl⟩, rfl, (fun d hd => by cases hd), fun i d a h => by simp at h⟩
 ·rw [hc] at hel
  obtain ⟨D, hD⟩ := Deep.choose_lt (α := List Value × α) (n := len) (p := fun i q => W.cells? 0 (a.add (i * c)) c = some q.1 ∧ Q q.1 q.2) (fun i hi => by
   have h1 := hel i hi
   rw [List.getElem?_eq_getElem (by omega)] at h1
   obtain ⟨cs', h2, h3⟩ := Option.bind_eq_some_iff.1 h1
   obtain ⟨b, hb⟩ := hQ n cs' _ (Nat.lt_succ_self n) h3
   exact ⟨(cs', b), h2, hb⟩)
  have hlen' : ∀ i, i < len → (D i).1.length = c := fun i hi => (World.cells?_some (hD i hi).1).2.1
  have hrow : ∀ d ∈ ((List.range len).map fun i => (D i).1), d.length = c := by
   intro d hd
   obtain ⟨i, hi, rfl⟩ := List.mem_map.1 hd
   exact hlen' i (List.mem_range.1 hi)
  have hll : ((List.range len).map fun i => (D i).2).length = len := by simp
  refine ⟨some a, cap, (List.range len).map fun i => (D i).1, (List.range len).map fun i => (D i).2, by rw [hll], ⟨some a, cap, rfl, by omega, by simp only [maxLen] at hm; omega, (fun h => by cases h), ?_⟩, by simp, hrow, ?_⟩
  ·by_cases hz : len = 0
   ·left; omega
   ·right
    have hc0 := (World.cells?_some (hD 0 (by omega)).1).2.2 0 h0
    have hs : a.spot = none := by
     have hd0 := hlen' 0 (by omega)
     rw [List.getElem?_eq_getElem (by omega)] at hc0
     have := spot_none hc0
     simpa [Addr.add] using this
    obtain ⟨b, off, s⟩ := a
    simp only at hs
    subst hs
    refine ⟨b, off, rfl, trivial, fun i u hu => ?_⟩
    have hlt := (List.getElem?_eq_some_iff.1 hu).1
    rw [flat_len c _ hrow] at hlt
    simp only [List.length_map, List.length_range] at hlt
    have hk : i / c < len := (Nat.div_lt_iff_lt_mul h0).2 hlt
    have hj : i % c < c := Nat.mod_lt _ h0
    have hrk : ((List.range len).map fun i => (D i).1)[i / c]? = some (D (i / c)).1 := by
     rw [List.getElem?_map, List.getElem?_range hk]; rfl
    have hdk := hlen' _ hk
    have hv : (D (i / c)).1[i % c]? = some (D (i / c)).1[i % c] := List.getElem?_eq_getElem (by omega)
    have h1 := Dc c _ _ _ _ _ hrow hrk hv
    have hi : i / c * c + i % c = i := by rw [Nat.mul_comm]; exact Nat.div_add_mod i c
    rw [hi] at h1
    have h2 := (World.cells?_some (hD _ hk).1).2.2 (i % c) hj
    rw [Addr.add_lit, Addr.add_lit, hv] at h2
    have e : u = (D (i / c)).1[i % c] := Option.some.inj (hu.symm.trans h1)
    rw [e, ← h2]
    exact cell_eq (by omega)
  ·intro i d b hd hb
   obtain ⟨h1, rfl⟩ := List.getElem?_eq_some_iff.1 hd
   obtain ⟨_, rfl⟩ := List.getElem?_eq_some_iff.1 hb
   simp at h1
   simp only [List.getElem_map, List.getElem_range]
   exact (hD i (by omega)).2
theorem cellF : Tryz.prog.cellsOf 24 = 5 := by kernel_rfl
theorem cellR : Tryz.prog.cellsOf 30 = 8 := by kernel_rfl
theorem cellS : Tryz.prog.cellsOf 28 = 2 := by kernel_rfl
theorem cellSg : Tryz.prog.cellsOf 72 = 3 := by kernel_rfl
theorem cellI : Tryz.prog.cellsOf 3 = 1 := by kernel_rfl
theorem cellB : Tryz.prog.cellsOf 4 = 1 := by kernel_rfl
theorem cellSt : Tryz.prog.cellsOf 9 = 1 := by kernel_rfl
theorem cellFs : Tryz.prog.cellsOf 22 = 1 := by kernel_rfl
theorem cellSgs : Tryz.prog.cellsOf 25 = 1 := by kernel_rfl
theorem cellRs : Tryz.prog.cellsOf 26 = 1 := by kernel_rfl
theorem strV_toList (s : ByteArray) : Value.string s = AL s.data.toList := by simp [AL]
theorem Bo {β : Type} {xs : List β} {n i : Nat} (h : xs.length = n) (hi : i < n) : ∃ y, xs[i]? = some y := ⟨_, List.getElem?_eq_getElem (by omega)⟩
theorem open_fml : ∀ (fuel : Nat) (cs : List Value) (x : DataW H × List MemPlace), DataW.trod enc Tryz.prog W 0 sp hd fuel 24 cs = some x → ∃ f : Fml, fmlR.fits A0 W cs f := by
 intro fuel
 induction fuel using Nat.strongRecOn with
 | ind fuel ih =>
 intro cs x h
 obtain ⟨xs, n, rfl, _, hl, hxl, hf⟩ := DataW.trod_struct Tryz.underlying24 h
 rw [cellF] at hl
 obtain ⟨c0, c1, c2, c3, c4, rfl⟩ := lenF hl
 have hx5 : xs.length = 5 := hxl
 have f0 : DataW.trod enc Tryz.prog W 0 sp hd n 3 ((List.drop 0 [c0, c1, c2, c3, c4]).take (Tryz.prog.cellsOf 3)) = xs[0]? := hf 0 _ rfl
 have f1 : DataW.trod enc Tryz.prog W 0 sp hd n 9 ((List.drop 1 [c0, c1, c2, c3, c4]).take (Tryz.prog.cellsOf 9)) = xs[1]? := hf 1 _ rfl
 have f2 : DataW.trod enc Tryz.prog W 0 sp hd n 3 ((List.drop 2 [c0, c1, c2, c3, c4]).take (Tryz.prog.cellsOf 3)) = xs[2]? := hf 2 _ rfl
 have f3 : DataW.trod enc Tryz.prog W 0 sp hd n 3 ((List.drop 3 [c0, c1, c2, c3, c4]).take (Tryz.prog.cellsOf 3)) = xs[3]? := hf 3 _ rfl
 have f4 : DataW.trod enc Tryz.prog W 0 sp hd n 22 ((List.drop 4 [c0, c1, c2, c3, c4]).take (Tryz.prog.cellsOf 22)) = xs[4]? := hf 4 _ rfl
 rw [cellI] at f0 f2 f3
 rw [cellSt] at f1
 rw [cellFs] at f4
 obtain ⟨y0, g0⟩ := Bo (i := 0) hx5 (by omega)
 obtain ⟨y1, g1⟩ := Bo (i := 1) hx5 (by omega)
 obtain ⟨y2, g2⟩ := Bo (i := 2) hx5 (by omega)
 obtain ⟨y3, g3⟩ := Bo (i := 3) hx5 (by omega)
 obtain ⟨y4, g4⟩ := Bo (i := 4) hx5 (by omega)
 obtain ⟨op, e0, _, _⟩ := DataW.trod_int Tryz.underlying3 (f0.trans g0)
 obtain ⟨s, e1, _, _⟩ := DataW.trod_string Tryz.underlying9 (f1.trans g1)
 obtain ⟨v, e2, _, _⟩ := DataW.trod_int Tryz.underlying3 (f2.trans g2)
 obtain ⟨b, e3, _, _⟩ := DataW.trod_int Tryz.underlying3 (f3.trans g3)
 have : Inhabited Fml := ⟨zeroF⟩
 obtain ⟨a, k, L, l, e4, hS, hL, h5, hA⟩ := open_rows (fun d g => fmlR.fits A0 W d g) Tryz.underlying22 cellF (by omega) (fun m cs x hm hx => ih m (by omega) cs x hx) (f4.trans g4)
 have e0' : c0 = .int .i64 op := by simpa using e0
 have e1' : c1 = AL s.data.toList := by rw [← strV_toList]; simpa using e1
 have e2' : c2 = .int .i64 v := by simpa using e2
 have e3' : c3 = .int .i64 b := by simpa using e3
 have e4' : c4 = .slice a l.length k := by simpa using e4
 subst e0' e1' e2' e3' e4'
 exact ⟨⟨op, s.data.toList, v, b, l⟩, rfl, .mk op _ v b l _ L hS hL h5 fun i c g hc hg => (hA i c g hc hg).2⟩
theorem open_req {fuel : Nat} {cs : List Value} {x : DataW H × List MemPlace} (h : DataW.trod enc Tryz.prog W 0 sp hd fuel 30 cs = some x) : ∃ r : Rqm, reqR.fits A0 W cs r := by
 obtain ⟨xs, n, rfl, _, hl, hxl, hf⟩ := DataW.trod_struct Tryz.underlying30 h
 rw [cellR] at hl
 obtain ⟨c0, c1, c2, d, rfl, hd5⟩ := lenR hl
 have hx4 : xs.length = 4 := hxl
 have f0 : DataW.trod enc Tryz.prog W 0 sp hd n 9 ((List.drop 0 (c0 :: c1 :: c2 :: d)).take (Tryz.prog.cellsOf 9)) = xs[0]? := hf 0 _ rfl
 have f1 : DataW.trod enc Tryz.prog W 0 sp hd n 9 ((List.drop 1 (c0 :: c1 :: c2 :: d)).take (Tryz.prog.cellsOf 9)) = xs[1]? := hf 1 _ rfl
 have f2 : DataW.trod enc Tryz.prog W 0 sp hd n 3 ((List.drop 2 (c0 :: c1 :: c2 :: d)).take (Tryz.prog.cellsOf 3)) = xs[2]? := hf 2 _ rfl
 have f3 : DataW.trod enc Tryz.prog W 0 sp hd n 24 ((List.drop 3 (c0 :: c1 :: c2 :: d)).take (Tryz.prog.cellsOf 24)) = xs[3]? := hf 3 _ rfl
 rw [cellI] at f2
 rw [cellSt] at f0 f1
 rw [cellF] at f3
 obtain ⟨y0, g0⟩ := Bo (i := 0) hx4 (by omega)
 obtain ⟨y1, g1⟩ := Bo (i := 1) hx4 (by omega)
 obtain ⟨y2, g2⟩ := Bo (i := 2) hx4 (by omega)
 obtain ⟨y3, g3⟩ := Bo (i := 3) hx4 (by omega)
 obtain ⟨s, e0, _, _⟩ := DataW.trod_string Tryz.underlying9 (f0.trans g0)
 obtain ⟨t, e1, _, _⟩ := DataW.trod_string Tryz.underlying9 (f1.trans g1)
 obtain ⟨k, e2, _, _⟩ := DataW.trod_int Tryz.underlying3 (f2.trans g2)
 obtain ⟨f, hF⟩ := open_fml _ _ _ (f3.trans g3)
 have e0' : c0 = AL s.data.toList := by rw [← strV_toList]; simpa using e0
 have e1' : c1 = AL t.data.toList := by rw [← strV_toList]; simpa using e1
 have e2' : c2 = .int .i64 k := by simpa using e2
 have e3 : (List.drop 3 (c0 :: c1 :: c2 :: d)).take 5 = d := by simp [← hd5]
 rw [e3] at hF
 subst e0' e1' e2'
 exact ⟨⟨s.data.toList, t.data.toList, k, f⟩, d, rfl, hd5, hF.2⟩
theorem open_sgn {fuel : Nat} {cs : List Value} {x : DataW H × List MemPlace} (h : DataW.trod enc Tryz.prog W 0 sp hd fuel 72 cs = some x) : ∃ r : Sgn, sgnR.fits A0 W cs r := by
 obtain ⟨xs, n, rfl, _, hl, hxl, hf⟩ := DataW.trod_struct Tryz.underlying72 h
 rw [cellSg] at hl
 obtain ⟨c0, c1, c2, rfl⟩ := lenG hl
 have hx3 : xs.length = 3 := hxl
 have f0 : DataW.trod enc Tryz.prog W 0 sp hd n 9 ((List.drop 0 [c0, c1, c2]).take (Tryz.prog.cellsOf 9)) = xs[0]? := hf 0 _ rfl
 have f1 : DataW.trod enc Tryz.prog W 0 sp hd n 4 ((List.drop 1 [c0, c1, c2]).take (Tryz.prog.cellsOf 4)) = xs[1]? := hf 1 _ rfl
 have f2 : DataW.trod enc Tryz.prog W 0 sp hd n 3 ((List.drop 2 [c0, c1, c2]).take (Tryz.prog.cellsOf 3)) = xs[2]? := hf 2 _ rfl
 rw [cellI] at f2
 rw [cellSt] at f0
 rw [cellB] at f1
 obtain ⟨y0, g0⟩ := Bo (i := 0) hx3 (by omega)
 obtain ⟨y1, g1⟩ := Bo (i := 1) hx3 (by omega)
 obtain ⟨y2, g2⟩ := Bo (i := 2) hx3 (by omega)
 obtain ⟨s, e0, _, _⟩ := DataW.trod_string Tryz.underlying9 (f0.trans g0)
 obtain ⟨t, e1, _, _⟩ := DataW.trod_bool Tryz.underlying4 (f1.trans g1)
 obtain ⟨k, e2, _, _⟩ := DataW.trod_int Tryz.underlying3 (f2.trans g2)
 have e0' : c0 = AL s.data.toList := by rw [← strV_toList]; simpa using e0
 have e1' : c1 = .bool t := by simpa using e1
 have e2' : c2 = .int .i64 k := by simpa using e2
 subst e0' e1' e2'
 exact ⟨⟨s.data.toList, t, k⟩, rfl⟩
theorem open_sgns {fuel : Nat} {cs : List Value} {x : DataW H × List MemPlace} (h : DataW.trod enc Tryz.prog W 0 sp hd fuel 25 cs = some x) : ∃ (v : Value) (l : List Sgn), cs = [v] ∧ SlAt sgnR A0 W v l := by
 have : Inhabited Sgn := ⟨⟨[], false, 0⟩⟩
 obtain ⟨a, k, L, l, e, hS, hL, _, hA⟩ := open_rows (fun d g => sgnR.fits A0 W d g) Tryz.underlying25 cellSg (by omega) (fun m cs x _ hx => open_sgn hx) h
 exact ⟨_, l, e, a, k, L, rfl, hS, hL, hA⟩
theorem open_reqs {fuel : Nat} {cs : List Value} {x : DataW H × List MemPlace} (h : DataW.trod enc Tryz.prog W 0 sp hd fuel 26 cs = some x) : ∃ (v : Value) (l : List Rqm), cs = [v] ∧ SlAt reqR A0 W v l := by
 have : Inhabited Rqm := ⟨⟨[], [], 0, zeroF⟩⟩
 obtain ⟨a, k, L, l, e, hS, hL, _, hA⟩ := open_rows (fun d g => reqR.fits A0 W d g) Tryz.underlying26 cellR (by omega) (fun m cs x _ hx => open_req hx) h
 exact ⟨_, l, e, a, k, L, rfl, hS, hL, hA⟩
theorem open_spc {fuel : Nat} {cs : List Value} {x : DataW H × List MemPlace} (h : DataW.trod enc Tryz.prog W 0 sp hd fuel 28 cs = some x) : ∃ s : Spc, spcR.fits A0 W cs s := by
 obtain ⟨xs, n, rfl, _, hl, hxl, hf⟩ := DataW.trod_struct Tryz.underlying28 h
 rw [cellS] at hl
 obtain ⟨c0, c1, rfl⟩ := lenS hl
 have hx2 : xs.length = 2 := hxl
 have f0 : DataW.trod enc Tryz.prog W 0 sp hd n 25 ((List.drop 0 [c0, c1]).take (Tryz.prog.cellsOf 25)) = xs[0]? := hf 0 _ rfl
 have f1 : DataW.trod enc Tryz.prog W 0 sp hd n 26 ((List.drop 1 [c0, c1]).take (Tryz.prog.cellsOf 26)) = xs[1]? := hf 1 _ rfl
 rw [cellSgs] at f0
 rw [cellRs] at f1
 obtain ⟨y0, g0⟩ := Bo (i := 0) hx2 (by omega)
 obtain ⟨y1, g1⟩ := Bo (i := 1) hx2 (by omega)
 obtain ⟨v0, l0, e0, h0⟩ := open_sgns (f0.trans g0)
 obtain ⟨v1, l1, e1, h1⟩ := open_reqs (f1.trans g1)
 have e0' : c0 = v0 := by simpa using e0
 have e1' : c1 = v1 := by simpa using e1
 subst e0' e1'
 exact ⟨⟨l0, l1⟩, c0, c1, rfl, h0, h1⟩
end
set_option maxRecDepth 100000 in
theorem val_struct {W : World} {r : Reach} {t : TypeId} {fs : Array Field} {v : Value} {b : Nat} (ht : Tryz.prog.underlying t = some (.struct fs)) (hval : Value.okWide Tryz.prog W r b t v) : v = .agg v.cells := by
 obtain ⟨cs, rfl, _⟩ := okWide_struct ht hval
 rfl
section
variable {H : Type} {enc : TypeId × Value → H} {W : World} {sp : Nat → Bool} {hd : Bool} {r : Reach} {b : Nat} {v : Value} {x : DataW H × List MemPlace}
set_option maxRecDepth 100000 in
theorem arg_fml (hval : Value.okWide Tryz.prog W r b 24 v) (h : ∃ n, DataW.trod enc Tryz.prog W 0 sp hd n 24 v.cells.toList = some x) : ∃ f : Fml, FAt A0 W v f := by
 obtain ⟨n, h⟩ := h
 obtain ⟨f, hf⟩ := open_fml _ _ _ h
 have e := val_struct Tryz.underlying24 hval
 refine ⟨f, ?_⟩
 rw [e]
 simpa using hf.2
set_option maxRecDepth 100000 in
theorem arg_spc (hval : Value.okWide Tryz.prog W r b 28 v) (h : ∃ n, DataW.trod enc Tryz.prog W 0 sp hd n 28 v.cells.toList = some x) : ∃ (c : List Value) (s : Spc), v = .agg c.toArray ∧ spcR.fits A0 W c s := by
 obtain ⟨n, h⟩ := h
 obtain ⟨s, hs⟩ := open_spc h
 exact ⟨_, s, by rw [Array.toArray_toList]; exact val_struct Tryz.underlying28 hval, hs⟩
set_option maxRecDepth 100000 in
theorem arg_reqs (hval : Value.okWide Tryz.prog W r b 26 v) (h : ∃ n, DataW.trod enc Tryz.prog W 0 sp hd n 26 v.cells.toList = some x) : ∃ l : List Rqm, SlAt reqR A0 W v l := by
 obtain ⟨n, h⟩ := h
 obtain ⟨u, l, e, hl⟩ := open_reqs h
 have : v = u := val_one Tryz.underlying26 hval e
 exact ⟨l, this ▸ hl⟩
end
end Go.Proofs.YtfcgdbmoncnibaaGreatDoor
namespace Go.Proofs.YtfcgdbmoncnibaaGreatDoor
open Go.ChangeShapes Go.WideShapes Go.ChangeAt Go.RowKit
set_option linter.unusedVariables false
section
variable {H : Type} {enc : TypeId × Value → H} {P : Program} {w : World} {base : Nat} {sp : Nat → Bool} {held : Bool}
theorem trod_arr {fuel : Nat} {t e : TypeId} {n c : Nat} {cs : List Value} {ds : List (DataW H)} {p : List MemPlace} (ht : P.underlying t = some (.array n e)) (hce : P.cellsOf e = c) (hct : P.cellsOf t = n * c)
  (h : DataW.trod enc P w base sp held fuel t cs = some (.agg ds, p)) : cs.length = n * c ∧ ∃ m, ∀ i, i < n → ∃ d q, ds[i]? = some d ∧ DataW.trod enc P w base sp held m e ((cs.drop (i * c)).take c) = some (d, q) := by
 cases fuel with
 | zero => simp [DataW.trod] at h
 | succ fuel =>
  simp only [DataW.trod, ht, hce, hct] at h
  split at h
  ·rename_i hl
   obtain ⟨xs, hm, hx⟩ := Option.map_eq_some_iff.1 h
   have hxs : xs.map (·.1) = ds := by
    have := congrArg Prod.fst hx
    simpa using this
   refine ⟨hl, fuel, fun i hi => ?_⟩
   obtain ⟨b, hb, hf⟩ := Lib.mapM_at hm i i (by simp [hi])
   exact ⟨b.1, b.2, by rw [← hxs, List.getElem?_map, hb]; rfl, hf⟩
  ·cases h
end
def spanD (p : Nat × Nat × Nat) : DataW Unit := .agg [.lit (.int .u8 (p.1 : Int)), .lit (.int .u8 (p.2.1 : Int)), .lit (.int .i64 (p.2.2 : Int))]
theorem DO {cs out : List Value} {c i r : Nat} {v : Value} (h : (cs.drop (i * c)).take c = out) (hv : out[r]? = some v) : cs[i * c + r]? = some v := by
 subst h
 rw [List.getElem?_take] at hv
 split at hv
 ·rwa [List.getElem?_drop] at hv
 ·cases hv
theorem len3 {cs : List Value} (h : cs.length = 3) : ∃ c0 c1 c2, cs = [c0, c1, c2] := by
 match cs, h with
 | [a, b, c], _ => exact ⟨a, b, c, rfl⟩
theorem span_piece {w : World} {fuel : Nat} {cs : List Value} {p : Nat × Nat × Nat} {q : List MemPlace} (h : DataW.trod (fun _ => ()) Tryz.prog w 0 (fun _ => true) false fuel 167 cs = some (spanD p, q)) : cs = spanC1 p := by
 have hc : Tryz.prog.cellsOf 167 = 3 := by kernel_rfl
 have h8 : Tryz.prog.cellsOf 5 = 1 := by kernel_rfl
 have hi : Tryz.prog.cellsOf 3 = 1 := by kernel_rfl
 obtain ⟨xs, n, _, hx, hcl, hxl, hf⟩ := DataW.trod_struct Tryz.underlying167 h
 rw [hc] at hcl
 obtain ⟨c0, c1, c2, rfl⟩ := len3 hcl
 have f0 : DataW.trod (fun _ => ()) Tryz.prog w 0 (fun _ => true) false n 5 ((List.drop 0 [c0, c1, c2]).take (Tryz.prog.cellsOf 5)) = xs[0]? := hf 0 _ rfl
 have f1 : DataW.trod (fun _ => ()) Tryz.prog w 0 (fun _ => true) false n 5 ((List.drop 1 [c0, c1, c2]).take (Tryz.prog.cellsOf 5)) = xs[1]? := hf 1 _ rfl
 have f2 : DataW.trod (fun _ => ()) Tryz.prog w 0 (fun _ => true) false n 3 ((List.drop 2 [c0, c1, c2]).take (Tryz.prog.cellsOf 3)) = xs[2]? := hf 2 _ rfl
 have hx3 : xs.length = 3 := hxl
 rw [h8] at f0 f1
 rw [hi] at f2
 have g0 : xs[0]? = some xs[0] := List.getElem?_eq_getElem (by omega)
 have g1 : xs[1]? = some xs[1] := List.getElem?_eq_getElem (by omega)
 have g2 : xs[2]? = some xs[2] := List.getElem?_eq_getElem (by omega)
 obtain ⟨a, ha, ha', _⟩ := DataW.trod_int Tryz.underlying5 (f0.trans g0)
 obtain ⟨b, hb, hb', _⟩ := DataW.trod_int Tryz.underlying5 (f1.trans g1)
 obtain ⟨c, hc2, hc', _⟩ := DataW.trod_int Tryz.underlying3 (f2.trans g2)
 have hd : xs.map (·.1) = [.lit (.int .u8 (p.1 : Int)), .lit (.int .u8 (p.2.1 : Int)), .lit (.int .i64 (p.2.2 : Int))] := by
  have := congrArg Prod.fst hx
  simpa [spanD] using this.symm
 have e0 := congrArg (·[0]?) hd
 have e1 := congrArg (·[1]?) hd
 have e2 := congrArg (·[2]?) hd
 simp [g0, ha'] at e0
 simp [g1, hb'] at e1
 simp [g2, hc'] at e2
 simp at ha hb hc2
 rw [ha, hb, hc2, e0, e1, e2]
 try rfl
theorem sym_piece {w : World} {fuel : Nat} {cs : List Value} {l : List UInt8} {q : List MemPlace} (h : DataW.trod (fun _ => ()) Tryz.prog w 0 (fun _ => true) false fuel 9 cs = some (.lit (.string l), q)) : cs = [AL l] := by
 obtain ⟨s, rfl, hx, _⟩ := DataW.trod_string Tryz.underlying9 h
 have := congrArg Prod.fst hx
 simp at this
 rw [this]
theorem int_at {w : World} {fuel i : Nat} {cs : List Value} {xs : List (DataW Unit × List MemPlace)} {ds : List (DataW Unit)} {z : Int} (hf : DataW.trod (fun _ => ()) Tryz.prog w 0 (fun _ => true) false fuel 3 ((cs.drop i).take 1) = xs[i]?) (hd : xs.map (·.1) = ds) (hi : ds[i]? = some (.lit (.int .i64 z))) : cs[i]? = some (.int .i64 z) := by
 rw [← hd, List.getElem?_map] at hi
 obtain ⟨x, hx, hz⟩ := Option.map_eq_some_iff.1 hi
 obtain ⟨n, hn, rfl, _⟩ := DataW.trod_int Tryz.underlying3 (hf.trans hx)
 simp at hz
 subst hz
 have := congrArg (·[0]?) hn
 simpa [List.getElem?_take, List.getElem?_drop] using this
theorem bool_at {w : World} {fuel i : Nat} {cs : List Value} {xs : List (DataW Unit × List MemPlace)} {ds : List (DataW Unit)} {z : Bool} (hf : DataW.trod (fun _ => ()) Tryz.prog w 0 (fun _ => true) false fuel 4 ((cs.drop i).take 1) = xs[i]?) (hd : xs.map (·.1) = ds) (hi : ds[i]? = some (.lit (.bool z))) : cs[i]? = some (.bool z) := by
 rw [← hd, List.getElem?_map] at hi
 obtain ⟨x, hx, hz⟩ := Option.map_eq_some_iff.1 hi
 obtain ⟨n, hn, rfl⟩ := DataW.trod_bool Tryz.underlying4 (hf.trans hx)
 simp at hz
 subst hz
 have := congrArg (·[0]?) hn
 simpa [List.getElem?_take, List.getElem?_drop] using this
def formD (x : Form) : DataW Unit := .agg [.lit (.int .i64 x.least), .lit (.int .i64 x.most), .lit (.int .i64 x.val), .lit (.int .i64 x.bound), .lit (.bool x.named), .lit (.bool x.past), .lit (.bool x.future), .lit (.bool x.loose)]
theorem form_piece {w : World} {fuel : Nat} {cs : List Value} {p : Form} {q : List MemPlace} (h : DataW.trod (fun _ => ()) Tryz.prog w 0 (fun _ => true) false fuel 175 cs = some (formD p, q)) : cs = CK p := by
 have hc : Tryz.prog.cellsOf 175 = 8 := by kernel_rfl
 have h8 : Tryz.prog.cellsOf 4 = 1 := by kernel_rfl
 have hi : Tryz.prog.cellsOf 3 = 1 := by kernel_rfl
 obtain ⟨xs, n, _, hx, hcl, hxl, hf⟩ := DataW.trod_struct Tryz.underlying175 h
 rw [hc] at hcl
 have hd : xs.map (·.1) = [.lit (.int .i64 p.least), .lit (.int .i64 p.most), .lit (.int .i64 p.val), .lit (.int .i64 p.bound), .lit (.bool p.named), .lit (.bool p.past), .lit (.bool p.future), .lit (.bool p.loose)] := by
  have := congrArg Prod.fst hx
  simpa [formD] using this.symm
 have f0 : DataW.trod (fun _ => ()) Tryz.prog w 0 (fun _ => true) false n 3 ((cs.drop 0).take (Tryz.prog.cellsOf 3)) = xs[0]? := hf 0 _ rfl
 have f1 : DataW.trod (fun _ => ()) Tryz.prog w 0 (fun _ => true) false n 3 ((cs.drop 1).take (Tryz.prog.cellsOf 3)) = xs[1]? := hf 1 _ rfl
 have f2 : DataW.trod (fun _ => ()) Tryz.prog w 0 (fun _ => true) false n 3 ((cs.drop 2).take (Tryz.prog.cellsOf 3)) = xs[2]? := hf 2 _ rfl
 have f3 : DataW.trod (fun _ => ()) Tryz.prog w 0 (fun _ => true) false n 3 ((cs.drop 3).take (Tryz.prog.cellsOf 3)) = xs[3]? := hf 3 _ rfl
 have f4 : DataW.trod (fun _ => ()) Tryz.prog w 0 (fun _ => true) false n 4 ((cs.drop 4).take (Tryz.prog.cellsOf 4)) = xs[4]? := hf 4 _ rfl
 have f5 : DataW.trod (fun _ => ()) Tryz.prog w 0 (fun _ => true) false n 4 ((cs.drop 5).take (Tryz.prog.cellsOf 4)) = xs[5]? := hf 5 _ rfl
 have f6 : DataW.trod (fun _ => ()) Tryz.prog w 0 (fun _ => true) false n 4 ((cs.drop 6).take (Tryz.prog.cellsOf 4)) = xs[6]? := hf 6 _ rfl
 have f7 : DataW.trod (fun _ => ()) Tryz.prog w 0 (fun _ => true) false n 4 ((cs.drop 7).take (Tryz.prog.cellsOf 4)) = xs[7]? := hf 7 _ rfl
 rw [hi] at f0 f1 f2 f3
 rw [h8] at f4 f5 f6 f7
 apply List.ext_getElem?
 intro i
 match i with
 | 0 => exact int_at f0 hd rfl
 | 1 => exact int_at f1 hd rfl
 | 2 => exact int_at f2 hd rfl
 | 3 => exact int_at f3 hd rfl
 | 4 => exact bool_at f4 hd rfl
 | 5 => exact bool_at f5 hd rfl
 | 6 => exact bool_at f6 hd rfl
 | 7 => exact bool_at f7 hd rfl
 | i + 8 => rw [List.getElem?_eq_none (by omega), List.getElem?_eq_none (by simp [CK])]
def laidL : List (String × DataW Unit) := [("math/bits.deBruijn32tab", Rows.laid_math_bits_deBruijn32tab), ("math/bits.deBruijn64tab", Rows.laid_math_bits_deBruijn64tab), ("internal/strconv.uint64pow10", Rows.laid_internal_strconv_uint64pow10), ("strconv.ErrRange", Rows.laid_strconv_ErrRange), ("strconv.ErrSyntax", Rows.laid_strconv_ErrSyntax), ("foresight/signal.keys", Rows.laid_foresight_signal_keys), ("foresight/formula.forms", Rows.laid_foresight_formula_forms), ("foresight/lexer.spans", Rows.laid_foresight_lexer_spans), ("foresight/lexer.symbols", Rows.laid_foresight_lexer_symbols)]
theorem gp_of_laid {W : World} (h : laidMetH Tryz.prog laidL W) : GP W ∧ GF W := by
 have h' : laidMet Tryz.prog laidL W := h
 obtain ⟨ps, ⟨g1, t1, cs1, fu1, p1, q1, hg1, ht1, hv1, hd1, ⟨g2, t2, cs2, fu2, p2, q2, hg2, ht2, hv2, hd2, ⟨g3, t3, cs3, fu3, p3, q3, hg3, ht3, hv3, hd3, ⟨g4, t4, cs4, fu4, p4, q4, hg4, ht4, hv4, hd4, ⟨g5, t5, cs5, fu5, p5, q5, hg5, ht5, hv5, hd5, ⟨g6, t6, cs6, fu6, p6, q6, hg6, ht6, hv6, hd6, ⟨g9, t9, cs9, fu9, p9, q9, hg9, ht9, hv9, hd9, ⟨g7, t7, cs7, fu7, p7, q7, hg7, ht7, hv7, hd7, ⟨g8, t8, cs8, fu8, p8, q8, hg8, ht8, hv8, hd8, _, _⟩, _⟩, _⟩, _⟩, _⟩, _⟩, _⟩, _⟩, _⟩, _⟩ := h'
 have n2 : Tryz.prog.globalNamed "math/bits.deBruijn64tab" = some 9 := by kernel_rfl
 have n6 : Tryz.prog.globalNamed "foresight/signal.keys" = some 3 := by kernel_rfl
 have n7 : Tryz.prog.globalNamed "foresight/lexer.spans" = some 0 := by kernel_rfl
 have n8 : Tryz.prog.globalNamed "foresight/lexer.symbols" = some 1 := by kernel_rfl
 have n9 : Tryz.prog.globalNamed "foresight/formula.forms" = some 2 := by kernel_rfl
 have n3 : Tryz.prog.globalNamed "internal/strconv.uint64pow10" = some 7 := by kernel_rfl
 have y9 : (Tryz.prog.globals[2]?).map (·.type) = some 200 := by kernel_rfl
 have y3 : (Tryz.prog.globals[7]?).map (·.type) = some 229 := by kernel_rfl
 have y6 : (Tryz.prog.globals[3]?).map (·.type) = some 201 := by kernel_rfl
 have y7 : (Tryz.prog.globals[0]?).map (·.type) = some 168 := by kernel_rfl
 have y8 : (Tryz.prog.globals[1]?).map (·.type) = some 198 := by kernel_rfl
 obtain rfl := Option.some.inj (n9.symm.trans hg9)
 obtain rfl := Option.some.inj (n3.symm.trans hg3)
 obtain rfl := Option.some.inj (y9.symm.trans ht9)
 obtain rfl := Option.some.inj (y3.symm.trans ht3)
 obtain rfl := Option.some.inj (n6.symm.trans hg6)
 obtain rfl := Option.some.inj (n7.symm.trans hg7)
 obtain rfl := Option.some.inj (n8.symm.trans hg8)
 obtain rfl := Option.some.inj (y6.symm.trans ht6)
 obtain rfl := Option.some.inj (y7.symm.trans ht7)
 obtain rfl := Option.some.inj (y8.symm.trans ht8)
 refine ⟨⟨⟨⟨?_, ?_, ?_⟩, ?_⟩, ?_⟩, ?_⟩
 ·obtain ⟨hl, m, hp⟩ := trod_arr (ds := spansL.map spanD) Tryz.underlying168 (by kernel_rfl : Tryz.prog.cellsOf 167 = 3) (by kernel_rfl) hd7
  intro j u hu
  have hj : j < 48 := (List.getElem?_eq_some_iff.1 hu).1
  obtain ⟨p, hsp⟩ : ∃ p, spansL[j / 3]? = some p := ⟨_, List.getElem?_eq_getElem (by show j / 3 < 16; omega)⟩
  obtain ⟨d, q, hd, ht⟩ := hp (j / 3) (by omega)
  rw [List.getElem?_map, hsp] at hd
  cases hd
  have e1 := span_piece ht
  have e2 := spanC_at spansL (j / 3) p hsp
  obtain ⟨v, hr⟩ : ∃ v, (spanC1 p)[j % 3]? = some v := ⟨_, List.getElem?_eq_getElem (by show j % 3 < 3; omega)⟩
  have c1 := DO e1 hr
  have c2 := DO e2 hr
  rw [show j / 3 * 3 + j % 3 = j by omega] at c1 c2
  have hu' : (spansL.flatMap spanC1)[j]? = some u := hu
  rw [c2] at hu'
  rw [Nat.zero_add, World.var?_cell n7 hv7 j]
  rw [← hu', ← c1]
  simp
 ·obtain ⟨hl, m, hp⟩ := trod_arr (ds := symsL.map fun l => .lit (.string l)) Tryz.underlying198 (by kernel_rfl : Tryz.prog.cellsOf 9 = 1) (by kernel_rfl) hd8
  intro j u hu
  have hj : j < 15 := (List.getElem?_eq_some_iff.1 hu).1
  obtain ⟨p, hsp⟩ : ∃ p, symsL[j]? = some p := ⟨_, List.getElem?_eq_getElem hj⟩
  obtain ⟨d, q, hd, ht⟩ := hp j hj
  rw [List.getElem?_map, hsp] at hd
  cases hd
  have c1 := DO (r := 0) (sym_piece ht) rfl
  have hu' : (symsL.map AL)[j]? = some u := hu
  rw [List.getElem?_map, hsp] at hu'
  cases hu'
  rw [Nat.zero_add, World.var?_cell n8 hv8 j]
  simpa using c1
 ·have hv := hv2
  simp only [World.var?, n2, Option.bind_some] at hv
  split at hv
  ·rename_i e
   have := (Array.getElem?_eq_some_iff.1 e).1
   omega
  ·cases hv
 ·obtain ⟨hl, m, hp⟩ := trod_arr (ds := keysL.map fun l => .lit (.string l)) Tryz.underlying201 (by kernel_rfl : Tryz.prog.cellsOf 9 = 1) (by kernel_rfl) hd6
  intro j u hu
  have hj : j < 10 := (List.getElem?_eq_some_iff.1 hu).1
  obtain ⟨p, hsp⟩ : ∃ p, keysL[j]? = some p := ⟨_, List.getElem?_eq_getElem hj⟩
  obtain ⟨d, q, hd, ht⟩ := hp j hj
  rw [List.getElem?_map, hsp] at hd
  cases hd
  have c1 := DO (r := 0) (sym_piece ht) rfl
  have hu' : (keysL.map AL)[j]? = some u := hu
  rw [List.getElem?_map, hsp] at hu'
  cases hu'
  rw [Nat.zero_add, World.var?_cell n6 hv6 j]
  simpa using c1
 ·have hc := Lib.cells_of_tab (zs := Lib.pow10Tab) (k := .u64) Tryz.underlying229 Tryz.underlying217 (by kernel_rfl) (by kernel_rfl) hd3
  unfold Lib.TabIs
  rw [hv3, ← hc]
 ·obtain ⟨hl, m, hp⟩ := trod_arr (ds := formsL.map formD) Tryz.underlying200 (by kernel_rfl : Tryz.prog.cellsOf 175 = 8) (by kernel_rfl) hd9
  intro j u hu
  have hj : j < 160 := (List.getElem?_eq_some_iff.1 hu).1
  obtain ⟨p, hsp⟩ : ∃ p, formsL[j / 8]? = some p := ⟨_, List.getElem?_eq_getElem (by show j / 8 < 20; omega)⟩
  obtain ⟨d, q, hd, ht⟩ := hp (j / 8) (by omega)
  rw [List.getElem?_map, hsp] at hd
  cases hd
  have e1 := form_piece ht
  obtain ⟨v, hr⟩ : ∃ v, (CK p)[j % 8]? = some v := ⟨_, List.getElem?_eq_getElem (by show j % 8 < 8; omega)⟩
  have c1 := DO e1 hr
  have c2 := formC_at formsL (j / 8) (j % 8) p v hsp hr
  rw [show j / 8 * 8 + j % 8 = j by omega] at c1 c2
  have hu' : (formsL.flatMap CK)[j]? = some u := hu
  rw [c2] at hu'
  rw [Nat.zero_add, World.var?_cell n9 hv9 j]
  rw [← hu', ← c1]
  simp
set_option maxRecDepth 100000 in
theorem law_liftedL {os : Os} (started : os.Started) {k : FuncId} {fn : Func} {s : ChangeSpec} {conds : List PathCond} {fresh : Bool} {H : Type} {enc : TypeId × Value → H} (F : Stop.Interp) (noInit : Tryz.prog.inits.idxOf? k = none) (hfn : Tryz.prog.funcs[k]? = some fn)
  (witness : ∃ (w : World) (tape : Tape) (i : Input), w.os = os ∧ (w.forCall tape i).Shaped Tryz.prog ∧ i.vars = [] ∧ Input.okWide Tryz.prog (w.forCall tape i) .any w.heap.size k i ∧
   (OpenSpec.ofChange s).preRow enc Tryz.prog fn conds false laidL (w.forCall tape i).memory i.args ∧ ({} : Assume).holds Tryz.prog (lone (Frame.enter Tryz.prog k i.args .normal) [] (w.forCall tape i)))
  (hs : s.vars = []) (hts : (fn.params.toList.all fun t => decide (t < Tryz.prog.types.size)) = true) (hrt : fn.resultTypes = #[4])
  (hspec : ∀ ds : List (DataW H), ds.length = fn.params.toList.length → s.fn H ds = { results := [.lit (.bool true)], args := ds })
  (law : ∀ (W : World) (base : Nat) (args : List Value) (ds : List (DataW H)) (p : List MemPlace), (∀ (j : Nat) t v, fn.params.toList[j]? = some t → args[j]? = some v → Value.okWide Tryz.prog W .any base t v) →
   DataW.TrodAll enc Tryz.prog W 0 (fun _ => true) true fn.params.toList args ds p → GP W ∧ GF W → Fn Tryz.prog k args W fun v w' => v = .bool true ∧ Ext W w') :
  ReturnsInHanded {} Tryz.checked os k .any ((OpenSpec.ofChange s).preRow enc Tryz.prog fn conds false laidL) (((OpenSpec.ofChange s).at F).post enc Tryz.prog fn false fresh false false) := by
 refine returnsInHanded_of_row (C := Tryz.checked) (s := OpenSpec.ofChange s) own started noInit hfn witness ?_
 intro W base args ds gs before hval hW _ _ _ hL _ _
 have hW' : DataW.Whole enc Tryz.prog fn.params.toList s.vars false W args.toList ds gs before := hW
 obtain ⟨p, q, hA, hV, rfl, hf, hn⟩ := hW
 have hg : gs = [] := by
  have hV' : DataW.TrodVars enc Tryz.prog W (fun _ => true) s.vars gs q := hV
  rw [hs] at hV'
  cases gs with
  | nil => rfl
  | cons _ _ => exact hV'.elim
 subst hg
 have hlen : ∀ {ts : List TypeId} {vs : List Value} {ds : List (DataW H)} {ps : List MemPlace}, DataW.TrodAll enc Tryz.prog W 0 (fun _ => true) true ts vs ds ps → ds.length = ts.length := by
  intro ts
  induction ts with
  | nil => intro vs ds ps h; obtain ⟨rfl, rfl, rfl⟩ := trodAll_nil h; rfl
  | cons t ts ih => intro vs ds ps h; obtain ⟨v, vs1, d, ds1, a, b, rfl, rfl, rfl, h1, h2⟩ := trodAll_cons h; simp [ih h2]
 refine Calls.mono (law W base args.toList ds p (fun j t v h1 h2 => hval j t v (Array.getElem?_toList.symm.trans h1) (Array.getElem?_toList.symm.trans h2)) hA (gp_of_laid hL)) fun e W' he => ?_
 cases e with
 | returned v =>
  refine ⟨v, rfl, post_of_ext kids full (fun t ht => of_decide_eq_true (List.all_eq_true.1 hts t ht)) hs hW' ?_ hrt Tryz.underlying4 he.1 he.2⟩
  rw [List.append_nil]; exact hspec ds (hlen hA)
 | panicked ch => exact he.elim
 | outgrown => exact he.elim
def layC (cs : List Value) : Obj → Obj
 | .cells _ t frozen => .cells cs.toArray t frozen
 | o => o
def tabC : DataW Unit → List Value
 | .agg l => l.map fun d => match d with | .lit (.int k z) => .int k z | _ => .bool false
 | _ => []
noncomputable def laidWorld (os : Os) : World :=
 let w := World.holding Tryz.prog os ⟨#[.cells #[AL [118, 97, 108, 117, 101, 32, 111, 117, 116, 32, 111, 102, 32, 114, 97, 110, 103, 101]] 236, .cells #[AL [105, 110, 118, 97, 108, 105, 100, 32, 115, 121, 110, 116, 97, 120]] 236], #[], []⟩
 { w with heap := (((((((((w.heap.modify 2 (layC formC)).modify 0 (layC spanC)).modify 1 (layC symC)).modify 3 (layC keyC)).modify 6 (layC [.iface 234 (.pointer (some ⟨15, 0, none⟩))])).modify 5 (layC [.iface 234 (.pointer (some ⟨16, 0, none⟩))])).modify 7 (layC (tabC Rows.laid_internal_strconv_uint64pow10))).modify 8 (layC (tabC Rows.laid_math_bits_deBruijn32tab))).modify 9 (layC (tabC Rows.laid_math_bits_deBruijn64tab))) }
end Go.Proofs.YtfcgdbmoncnibaaGreatDoor
namespace Go.Proofs.YtfcgdbmoncnibaaGreatDoor
open Go.ChangeShapes Go.WideShapes Go.ChangeAt Go.RowKit
set_option linter.unusedVariables false
set_option maxRecDepth 100000 in
theorem PrinterParts_open {H : Type} {enc : TypeId × Value → H} (W : World) (base : Nat) (args : List Value) (ds : List (DataW H)) (p : List MemPlace) (hval : ∀ (j : Nat) t v, Tryz.f4.params.toList[j]? = some t → args[j]? = some v → Value.okWide Tryz.prog W .any base t v)
  (hA : DataW.TrodAll enc Tryz.prog W 0 (fun _ => true) true Tryz.f4.params.toList args ds p) (hG : GP W ∧ GF W) : Fn Tryz.prog 4 args W fun v w' => v = .bool true ∧ Ext W w' := by
 rw [Tryz.params4] at hA hval
 obtain ⟨v0, _, d0, _, p0, q0, rfl, rfl, rfl, h0, r0⟩ := trodAll_cons hA
 obtain ⟨v1, _, d1, _, p1, q1, rfl, rfl, rfl, h1, r1⟩ := trodAll_cons r0
 obtain ⟨v2, _, d2, _, p2, q2, rfl, rfl, rfl, h2, r2⟩ := trodAll_cons r1
 obtain ⟨rfl, rfl, rfl⟩ := trodAll_nil r2
 obtain ⟨f, hf⟩ := arg_fml (hval 0 _ v0 rfl rfl) h0
 obtain ⟨cs, s, rfl, hs⟩ := arg_spc (hval 1 _ v1 rfl rfl) h1
 obtain ⟨l, hl⟩ := arg_reqs (hval 2 _ v2 rfl rfl) h2
 exact parts_ok W v0 f cs s v2 l hf hs hl hG.1 hG.2
theorem PrinterParts_laidMet (os : Os) : laidMet Tryz.prog laidL ((laidWorld os).forCall (fun _ _ => 0) ⟨#[], #[.agg #[.int .i64 0, AL [], .int .i64 0, .int .i64 0, .slice none 0 0], .agg #[.slice none 0 0, .slice none 0 0], .slice none 0 0], []⟩).memory := laidMet_of_run' 8 (by kernel_rfl) (by kernel_rfl)
theorem PrinterParts_reads (os : Os) {H : Type} (enc : TypeId × Value → H) : ∃ places, DataW.whole enc Tryz.prog ((laidWorld os).forCall (fun _ _ => 0) ⟨#[], #[.agg #[.int .i64 0, AL [], .int .i64 0, .int .i64 0, .slice none 0 0], .agg #[.slice none 0 0, .slice none 0 0], .slice none 0 0], []⟩).memory Tryz.f4.params.toList Rows.printerPartsSpec.vars false #[.agg #[.int .i64 0, AL [], .int .i64 0, .int .i64 0, .slice none 0 0], .agg #[.slice none 0 0, .slice none 0 0], .slice none 0 0].toList 8 = some ([.agg [.lit (.int .i64 0), .lit (.string []), .lit (.int .i64 0), .lit (.int .i64 0), .nil], .agg [.nil, .nil], .nil], [], places) := ⟨[], by kernel_rfl⟩
set_option maxRecDepth 100000 in
theorem PrinterParts_lifted (os : Os) (started : os.Started) (H : Type) (enc : TypeId × Value → H) (F : Stop.Interp) :
  ReturnsInHanded {} Tryz.checked os 4 .any ((OpenSpec.ofChange Rows.printerPartsSpec).preRow enc Tryz.prog Tryz.f4 Rows.printerPartsRow.domain false Rows.printerPartsRow.laid) (((OpenSpec.ofChange Rows.printerPartsSpec).at F).post enc Tryz.prog Tryz.f4 false true false false) := by
 obtain ⟨places, hx⟩ := PrinterParts_reads os enc
 exact law_liftedL started F (by kernel_rfl) Tryz.func4
  (witness_row_atRef (enc := enc) (C := Tryz.checked) false (laidWorld os) #[.agg #[.int .i64 0, AL [], .int .i64 0, .int .i64 0, .slice none 0 0], .agg #[.slice none 0 0, .slice none 0 0], .slice none 0 0] rfl (by kernel_rfl) (by kernel_rfl) (by kernel_rfl)
   (OpenSpec.preRow_of_cond 8 hx (by kernel_rfl) (fun k hk => by cases hk) (by kernel_rfl) (PrinterParts_laidMet os))) rfl (by kernel_rfl) (by kernel_rfl)
  (fun ds h => by
   match ds, h with
   | [d1, d2, d3], _ => rfl) PrinterParts_open
theorem PrinterParts_said : Rows.PrinterPartsSaid :=
 OpenClaim.holds_of_cond 4 Tryz.f4 rfl rfl rfl rfl rfl rfl rfl ⟨rfl, rfl, rfl, rfl, rfl⟩ rfl rfl rfl rfl rfl (by kernel_rfl) Tryz.func4 (by kernel_rfl)
  (of_decide_eq_true (by kernel_rfl)) (by unfold Func.isWrapper; first | (rw [if_pos (by decide +kernel)]; kernel_rfl) | (rw [if_neg (by decide +kernel)]; exact ⟨rfl, rfl⟩))
  (fun os started H enc _ F => by rw [OpenClaim.pre_eq_preRow]; exact PrinterParts_lifted os started H enc F)
theorem PrinterParts_plain (f : FuncId) (fn : Func) (hf : Tryz.pinned.checked.prog.funcNamed "foresight/foresightlaw06.PrinterParts" = some f) (hfn : Tryz.pinned.checked.prog.funcs[f]? = some fn) :
  true = Tryz.pinned.checked.prog.looks [] ∧ ∀ (j : Nat) t, fn.params[j]? = some t → Tryz.pinned.checked.prog.wantsStandIn t = false := by
 obtain rfl : f = 4 := Option.some.inj ((show Tryz.prog.funcNamed "foresight/foresightlaw06.PrinterParts" = some 4 by kernel_rfl).symm.trans hf) |>.symm
 obtain rfl : fn = Tryz.f4 := (Option.some.inj (Tryz.func4.symm.trans hfn)).symm
 refine ⟨by kernel_rfl, fun j t ht => ?_⟩
 have hall : (Tryz.f4.params.toList.all fun t => !Tryz.prog.wantsStandIn t) = true := by kernel_rfl
 have := List.all_eq_true.1 hall t (by simpa using Array.mem_of_getElem? ht)
 exact Bool.not_eq_true' _ |>.mp this
theorem PrinterParts_proved : Rows.PrinterPartsCardSaid :=
 Claim7.holds_tied_plain_at .later [] _ _ _ _ PrinterParts_said (fun _ h => by cases h) (by kernel_rfl) (fun _ h => by cases h) printerParts_row_tie rfl ⟨rfl, rfl⟩ (by kernel_rfl) rfl PrinterParts_plain (by kernel_rfl)
end Go.Proofs.YtfcgdbmoncnibaaGreatDoor
