/- A law's close where the row lists variables: what the list gives, the witness, the law's step. Conditions: none. -/
import Derived.Test.YteonolnfgppagaaDoorCloseG
import Derived.Test.YteonolnfgppagaaDoorX6
import Derived.Test.YteonolnfgppagaaDoorCards
import Derived.Test.YteonolnfgppagaaDoorTie
import Derived.Deep.DeepHandedRow
import Derived.Lib.LaidTab
namespace Go.Proofs.YteonolnfgppagaaDoor
open Go.ChangeShapes Go.WideShapes Go.ChangeAt Go.RowKit
set_option linter.unusedVariables false

section
variable {H : Type} {enc : TypeId × Value → H} {P : Program} {w : World} {base : Nat} {sp : Nat → Bool} {held : Bool}
theorem trod_arr {fuel : Nat} {t e : TypeId} {n c : Nat} {cs : List Value} {ds : List (DataW H)} {p : List MemPlace} (ht : P.underlying t = some (.array n e)) (hce : P.cellsOf e = c) (hct : P.cellsOf t = n * c)
    (h : DataW.trod enc P w base sp held fuel t cs = some (.agg ds, p)) : cs.length = n * c ∧ ∃ m, ∀ i, i < n → ∃ d q, ds[i]? = some d ∧ DataW.trod enc P w base sp held m e ((cs.drop (i * c)).take c) = some (d, q) := by
  cases fuel with
  | zero => simp [DataW.trod] at h
  | succ fuel =>
    simp only [DataW.trod, ht, hce, hct] at h
    split at h
    · rename_i hl
      obtain ⟨xs, hm, hx⟩ := Option.map_eq_some_iff.1 h
      have hxs : xs.map (·.1) = ds := by
        have := congrArg Prod.fst hx
        simpa using this
      refine ⟨hl, fuel, fun i hi => ?_⟩
      obtain ⟨b, hb, hf⟩ := Lib.mapM_at hm i i (by simp [hi])
      exact ⟨b.1, b.2, by rw [← hxs, List.getElem?_map, hb]; rfl, hf⟩
    · cases h
end

def spanD (p : Nat × Nat × Nat) : DataW Unit := .agg [.lit (.int .u8 (p.1 : Int)), .lit (.int .u8 (p.2.1 : Int)), .lit (.int .i64 (p.2.2 : Int))]
theorem cell_of_piece {cs out : List Value} {c i r : Nat} {v : Value} (h : (cs.drop (i * c)).take c = out) (hv : out[r]? = some v) : cs[i * c + r]? = some v := by
  subst h
  rw [List.getElem?_take] at hv
  split at hv
  · rwa [List.getElem?_drop] at hv
  · cases hv

theorem span_piece {w : World} {fuel : Nat} {cs : List Value} {p : Nat × Nat × Nat} {q : List MemPlace} (h : DataW.trod (fun _ => ()) Tryd.prog w 0 (fun _ => true) false fuel 48 cs = some (spanD p, q)) : cs = spanC1 p := by
  have hc : Tryd.prog.cellsOf 48 = 3 := by kernel_rfl
  have h8 : Tryd.prog.cellsOf 5 = 1 := by kernel_rfl
  have hi : Tryd.prog.cellsOf 3 = 1 := by kernel_rfl
  obtain ⟨xs, n, _, hx, hcl, hxl, hf⟩ := DataW.trod_struct Tryd.underlying48 h
  rw [hc] at hcl
  obtain ⟨c0, c1, c2, rfl⟩ : ∃ c0 c1 c2, cs = [c0, c1, c2] := by
    match cs, hcl with
    | [a, b, c], _ => exact ⟨a, b, c, rfl⟩
  have f0 : DataW.trod (fun _ => ()) Tryd.prog w 0 (fun _ => true) false n 5 ((List.drop 0 [c0, c1, c2]).take (Tryd.prog.cellsOf 5)) = xs[0]? := hf 0 _ rfl
  have f1 : DataW.trod (fun _ => ()) Tryd.prog w 0 (fun _ => true) false n 5 ((List.drop 1 [c0, c1, c2]).take (Tryd.prog.cellsOf 5)) = xs[1]? := hf 1 _ rfl
  have f2 : DataW.trod (fun _ => ()) Tryd.prog w 0 (fun _ => true) false n 3 ((List.drop 2 [c0, c1, c2]).take (Tryd.prog.cellsOf 3)) = xs[2]? := hf 2 _ rfl
  have hx3 : xs.length = 3 := hxl
  rw [h8] at f0 f1
  rw [hi] at f2
  have g0 : xs[0]? = some xs[0] := List.getElem?_eq_getElem (by omega)
  have g1 : xs[1]? = some xs[1] := List.getElem?_eq_getElem (by omega)
  have g2 : xs[2]? = some xs[2] := List.getElem?_eq_getElem (by omega)
  obtain ⟨a, ha, ha', _⟩ := DataW.trod_int Tryd.underlying5 (f0.trans g0)
  obtain ⟨b, hb, hb', _⟩ := DataW.trod_int Tryd.underlying5 (f1.trans g1)
  obtain ⟨c, hc2, hc', _⟩ := DataW.trod_int Tryd.underlying3 (f2.trans g2)
  have hd : xs.map (·.1) = [.lit (.int .u8 (p.1 : Int)), .lit (.int .u8 (p.2.1 : Int)), .lit (.int .i64 (p.2.2 : Int))] := by
    have := congrArg Prod.fst hx
    simpa [spanD] using this.symm
  have e0 := congrArg (·[0]?) hd
  have e1 := congrArg (·[1]?) hd
  have e2 := congrArg (·[2]?) hd
  simp [g0, ha'] at e0
  simp [g1, hb'] at e1
  simp [g2, hc'] at e2
  simp at ha hb hc2
  rw [ha, hb, hc2, e0, e1, e2]
  try rfl
theorem sym_piece {w : World} {fuel : Nat} {cs : List Value} {l : List UInt8} {q : List MemPlace} (h : DataW.trod (fun _ => ()) Tryd.prog w 0 (fun _ => true) false fuel 9 cs = some (.lit (.string l), q)) : cs = [strV l] := by
  obtain ⟨s, rfl, hx, _⟩ := DataW.trod_string Tryd.underlying9 h
  have := congrArg Prod.fst hx
  simp at this
  rw [this]

def laidL : List (String × DataW Unit) := [("foresight/lexer.spans", Rows.laid_foresight_lexer_spans), ("foresight/lexer.symbols", Rows.laid_foresight_lexer_symbols)]
theorem gv_of_laid {W : World} (h : laidMetH Tryd.prog laidL W) : GV W := by
  have h' : laidMet Tryd.prog laidL W := h
  obtain ⟨ps, ⟨g1, t1, cs1, fu1, p1, q1, hg1, ht1, hv1, hd1, ⟨g2, t2, cs2, fu2, p2, q2, hg2, ht2, hv2, hd2, _, _⟩, _⟩, _⟩ := h'
  have n1 : Tryd.prog.globalNamed "foresight/lexer.spans" = some 0 := by kernel_rfl
  have n2 : Tryd.prog.globalNamed "foresight/lexer.symbols" = some 1 := by kernel_rfl
  have y1 : (Tryd.prog.globals[0]?).map (·.type) = some 49 := by kernel_rfl
  have y2 : (Tryd.prog.globals[1]?).map (·.type) = some 53 := by kernel_rfl
  obtain rfl := Option.some.inj (n1.symm.trans hg1)
  obtain rfl := Option.some.inj (n2.symm.trans hg2)
  obtain rfl := Option.some.inj (y1.symm.trans ht1)
  obtain rfl := Option.some.inj (y2.symm.trans ht2)
  constructor
  · obtain ⟨hl, m, hp⟩ := trod_arr (ds := spansL.map spanD) Tryd.underlying49 (by kernel_rfl : Tryd.prog.cellsOf 48 = 3) (by kernel_rfl) hd1
    intro j u hu
    have hj : j < 48 := (List.getElem?_eq_some_iff.1 hu).1
    obtain ⟨p, hsp⟩ : ∃ p, spansL[j / 3]? = some p := ⟨_, List.getElem?_eq_getElem (by show j / 3 < 16; omega)⟩
    obtain ⟨d, q, hd, ht⟩ := hp (j / 3) (by omega)
    rw [List.getElem?_map, hsp] at hd
    cases hd
    have e1 := span_piece ht
    have e2 := spanC_at spansL (j / 3) p hsp
    obtain ⟨v, hr⟩ : ∃ v, (spanC1 p)[j % 3]? = some v := ⟨_, List.getElem?_eq_getElem (by show j % 3 < 3; omega)⟩
    have c1 := cell_of_piece e1 hr
    have c2 := cell_of_piece e2 hr
    rw [show j / 3 * 3 + j % 3 = j by omega] at c1 c2
    have hu' : (spansL.flatMap spanC1)[j]? = some u := hu
    rw [c2] at hu'
    rw [Nat.zero_add, World.var?_cell n1 hv1 j]
    rw [← hu', ← c1]
    simp
  · obtain ⟨hl, m, hp⟩ := trod_arr (ds := symsL.map fun l => .lit (.string l)) Tryd.underlying53 (by kernel_rfl : Tryd.prog.cellsOf 9 = 1) (by kernel_rfl) hd2
    intro j u hu
    have hj : j < 15 := (List.getElem?_eq_some_iff.1 hu).1
    obtain ⟨p, hsp⟩ : ∃ p, symsL[j]? = some p := ⟨_, List.getElem?_eq_getElem hj⟩
    obtain ⟨d, q, hd, ht⟩ := hp j hj
    rw [List.getElem?_map, hsp] at hd
    cases hd
    have c1 := cell_of_piece (r := 0) (sym_piece ht) rfl
    have hu' : (symsL.map strV)[j]? = some u := hu
    rw [List.getElem?_map, hsp] at hu'
    cases hu'
    rw [Nat.zero_add, World.var?_cell n2 hv2 j]
    simpa using c1

/-- a law's step: what is left is its walk, from a world where the listed variables hold what is listed -/
theorem law_liftedL {os : Os} (started : os.Started) {k : FuncId} {fn : Func} {s : ChangeSpec} {conds : List PathCond} {fresh : Bool} {H : Type} {enc : TypeId × Value → H} (F : Stop.Interp) (noInit : Tryd.prog.inits.idxOf? k = none) (hfn : Tryd.prog.funcs[k]? = some fn)
    (witness : ∃ (w : World) (tape : Tape) (i : Input), w.os = os ∧ (w.forCall tape i).Shaped Tryd.prog ∧ i.vars = [] ∧ Input.okWide Tryd.prog (w.forCall tape i) .any w.heap.size k i ∧
      (OpenSpec.ofChange s).preRow enc Tryd.prog fn conds false laidL (w.forCall tape i).memory i.args ∧ ({} : Assume).holds Tryd.prog (lone (Frame.enter Tryd.prog k i.args .normal) [] (w.forCall tape i)))
    (hs : s.vars = []) (hts : (fn.params.toList.all fun t => decide (t < Tryd.prog.types.size)) = true) (hrt : fn.resultTypes = #[4])
    (hspec : ∀ ds : List (DataW H), ds.length = fn.params.toList.length → s.fn H ds = { results := [.lit (.bool true)], args := ds })
    (law : ∀ (W : World) (base : Nat) (args : List Value) (ds : List (DataW H)) (p : List MemPlace), (∀ (j : Nat) t v, fn.params.toList[j]? = some t → args[j]? = some v → Value.okWide Tryd.prog W .any base t v) →
      DataW.TrodAll enc Tryd.prog W 0 (fun _ => true) true fn.params.toList args ds p → GV W → Fn Tryd.prog k args W fun v w' => v = .bool true ∧ Ext W w') :
    ReturnsInHanded {} Tryd.checked os k .any ((OpenSpec.ofChange s).preRow enc Tryd.prog fn conds false laidL) (((OpenSpec.ofChange s).at F).post enc Tryd.prog fn false fresh false false) := by
  refine returnsInHanded_of_row (C := Tryd.checked) (s := OpenSpec.ofChange s) own started noInit hfn witness ?_
  intro W base args ds gs before hval hW _ _ _ hL _ _
  have hW' : DataW.Whole enc Tryd.prog fn.params.toList s.vars false W args.toList ds gs before := hW
  obtain ⟨p, q, hA, hV, rfl, hf, hn⟩ := hW
  have hg : gs = [] := by
    have hV' : DataW.TrodVars enc Tryd.prog W (fun _ => true) s.vars gs q := hV
    rw [hs] at hV'
    cases gs with
    | nil => rfl
    | cons _ _ => exact hV'.elim
  subst hg
  have hlen : ∀ {ts : List TypeId} {vs : List Value} {ds : List (DataW H)} {ps : List MemPlace}, DataW.TrodAll enc Tryd.prog W 0 (fun _ => true) true ts vs ds ps → ds.length = ts.length := by
    intro ts
    induction ts with
    | nil => intro vs ds ps h; obtain ⟨rfl, rfl, rfl⟩ := trodAll_nil h; rfl
    | cons t ts ih => intro vs ds ps h; obtain ⟨v, vs1, d, ds1, a, b, rfl, rfl, rfl, h1, h2⟩ := trodAll_cons h; simp [ih h2]
  refine Calls.mono (law W base args.toList ds p (fun j t v h1 h2 => hval j t v (by simpa using h1) (by simpa using h2)) hA (gv_of_laid hL)) fun e W' he => ?_
  cases e with
  | returned v =>
    refine ⟨v, rfl, post_of_ext kids full (fun t ht => of_decide_eq_true (List.all_eq_true.1 hts t ht)) hs hW' ?_ hrt Tryd.underlying4 he.1 he.2⟩
    rw [List.append_nil]; exact hspec ds (hlen hA)
  | panicked ch => exact he.elim
  | outgrown => exact he.elim

def layC (cs : List Value) : Obj → Obj
  | .cells _ t frozen => .cells cs.toArray t frozen
  | o => o
/-- a world for the witness -/
noncomputable def laidWorld (os : Os) : World :=
  { World.holding Tryd.prog os ⟨#[], #[], []⟩ with heap := ((World.holding Tryd.prog os ⟨#[], #[], []⟩).heap.modify 0 (layC spanC)).modify 1 (layC symC) }
end Go.Proofs.YteonolnfgppagaaDoor
