/- A law's close where the row lists the parser's variables: what the list gives, the witness, the law's step. PrinterParentheses: for every input the law returns true and each argument reads as it did. Conditions: none. -/
import Derived.Test.YtfcgdbmoncnibaaGreatDoorZF14
import Derived.Test.YtfcgdbmoncnibaaGreatDoorCards
import Derived.Test.YtfcgdbmoncnibaaGreatDoorTie
import Derived.Deep.DeepWitnessRowRef
import Derived.Lib.LaidTab

namespace Go.Proofs.YtfcgdbmoncnibaaGreatDoor
open Go.ChangeShapes Go.WideShapes Go.ChangeAt Go.RowKit
set_option linter.unusedVariables false
section
variable {H : Type} {enc : TypeId × Value → H} {P : Program} {w : World} {base : Nat} {sp : Nat → Bool} {held : Bool}
theorem trod_arr {fuel : Nat} {t e : TypeId} {n c : Nat} {cs : List Value} {ds : List (DataW H)} {p : List MemPlace} (ht : P.underlying t = some (.array n e)) (hce : P.cellsOf e = c) (hct : P.cellsOf t = n * c)
  (h : DataW.trod enc P w base sp held fuel t cs = some (.agg ds, p)) : cs.length = n * c ∧ ∃ m, ∀ i, i < n → ∃ d q, ds[i]? = some d ∧ DataW.trod enc P w base sp held m e ((cs.drop (i * c)).take c) = some (d, q) := by
 cases fuel with
 | zero => simp [DataW.trod] at h
 | succ fuel =>
  simp only [DataW.trod, ht, hce, hct] at h
  split at h
  ·rename_i hl
   obtain ⟨xs, hm, hx⟩ := Option.map_eq_some_iff.1 h
   have hxs : xs.map (·.1) = ds := by
    have := congrArg Prod.fst hx
    simpa using this
   refine ⟨hl, fuel, fun i hi => ?_⟩
   obtain ⟨b, hb, hf⟩ := Lib.mapM_at hm i i (by simp [hi])
   exact ⟨b.1, b.2, by rw [← hxs, List.getElem?_map, hb]; rfl, hf⟩
  ·cases h
end
def spanD (p : Nat × Nat × Nat) : DataW Unit := .agg [.lit (.int .u8 (p.1 : Int)), .lit (.int .u8 (p.2.1 : Int)), .lit (.int .i64 (p.2.2 : Int))]
theorem C7 {cs out : List Value} {c i r : Nat} {v : Value} (h : (cs.drop (i * c)).take c = out) (hv : out[r]? = some v) : cs[i * c + r]? = some v := by
 subst h
 rw [List.getElem?_take] at hv
 split at hv
 ·rwa [List.getElem?_drop] at hv
 ·cases hv
theorem len3 {cs : List Value} (h : cs.length = 3) : ∃ c0 c1 c2, cs = [c0, c1, c2] := by
 match cs, h with
 | [a, b, c], _ => exact ⟨a, b, c, rfl⟩
theorem span_piece {w : World} {fuel : Nat} {cs : List Value} {p : Nat × Nat × Nat} {q : List MemPlace} (h : DataW.trod (fun _ => ()) Tryz.prog w 0 (fun _ => true) false fuel 167 cs = some (spanD p, q)) : cs = spanC1 p := by
 have hc : Tryz.prog.cellsOf 167 = 3 := by kernel_rfl
 have h8 : Tryz.prog.cellsOf 5 = 1 := by kernel_rfl
 have hi : Tryz.prog.cellsOf 3 = 1 := by kernel_rfl
 obtain ⟨xs, n, _, hx, hcl, hxl, hf⟩ := DataW.trod_struct Tryz.underlying167 h
 rw [hc] at hcl
 obtain ⟨c0, c1, c2, rfl⟩ := len3 hcl
 have f0 : DataW.trod (fun _ => ()) Tryz.prog w 0 (fun _ => true) false n 5 ((List.drop 0 [c0, c1, c2]).take (Tryz.prog.cellsOf 5)) = xs[0]? := hf 0 _ rfl
 have f1 : DataW.trod (fun _ => ()) Tryz.prog w 0 (fun _ => true) false n 5 ((List.drop 1 [c0, c1, c2]).take (Tryz.prog.cellsOf 5)) = xs[1]? := hf 1 _ rfl
 have f2 : DataW.trod (fun _ => ()) Tryz.prog w 0 (fun _ => true) false n 3 ((List.drop 2 [c0, c1, c2]).take (Tryz.prog.cellsOf 3)) = xs[2]? := hf 2 _ rfl
 have hx3 : xs.length = 3 := hxl
 rw [h8] at f0 f1
 rw [hi] at f2
 have g0 : xs[0]? = some xs[0] := List.getElem?_eq_getElem (by omega)
 have g1 : xs[1]? = some xs[1] := List.getElem?_eq_getElem (by omega)
 have g2 : xs[2]? = some xs[2] := List.getElem?_eq_getElem (by omega)
 obtain ⟨a, ha, ha', _⟩ := DataW.trod_int Tryz.underlying5 (f0.trans g0)
 obtain ⟨b, hb, hb', _⟩ := DataW.trod_int Tryz.underlying5 (f1.trans g1)
 obtain ⟨c, hc2, hc', _⟩ := DataW.trod_int Tryz.underlying3 (f2.trans g2)
 have hd : xs.map (·.1) = [.lit (.int .u8 (p.1 : Int)), .lit (.int .u8 (p.2.1 : Int)), .lit (.int .i64 (p.2.2 : Int))] := by
  have := congrArg Prod.fst hx
  simpa [spanD] using this.symm
 have e0 := congrArg (·[0]?) hd
 have e1 := congrArg (·[1]?) hd
 have e2 := congrArg (·[2]?) hd
 simp [g0, ha'] at e0
 simp [g1, hb'] at e1
 simp [g2, hc'] at e2
 simp at ha hb hc2
 rw [ha, hb, hc2, e0, e1, e2]
 try rfl
theorem sym_piece {w : World} {fuel : Nat} {cs : List Value} {l : List UInt8} {q : List MemPlace} (h : DataW.trod (fun _ => ()) Tryz.prog w 0 (fun _ => true) false fuel 9 cs = some (.lit (.string l), q)) : cs = [AM l] := by
 obtain ⟨s, rfl, hx, _⟩ := DataW.trod_string Tryz.underlying9 h
 have := congrArg Prod.fst hx
 simp at this
 rw [this]
theorem int_at {w : World} {fuel i : Nat} {cs : List Value} {xs : List (DataW Unit × List MemPlace)} {ds : List (DataW Unit)} {z : Int} (hf : DataW.trod (fun _ => ()) Tryz.prog w 0 (fun _ => true) false fuel 3 ((cs.drop i).take 1) = xs[i]?) (hd : xs.map (·.1) = ds) (hi : ds[i]? = some (.lit (.int .i64 z))) : cs[i]? = some (.int .i64 z) := by
 rw [← hd, List.getElem?_map] at hi
 obtain ⟨x, hx, hz⟩ := Option.map_eq_some_iff.1 hi
 obtain ⟨n, hn, rfl, _⟩ := DataW.trod_int Tryz.underlying3 (hf.trans hx)
 simp at hz
 subst hz
 have := congrArg (·[0]?) hn
 simpa [List.getElem?_take, List.getElem?_drop] using this
theorem bool_at {w : World} {fuel i : Nat} {cs : List Value} {xs : List (DataW Unit × List MemPlace)} {ds : List (DataW Unit)} {z : Bool} (hf : DataW.trod (fun _ => ()) Tryz.prog w 0 (fun _ => true) false fuel 4 ((cs.drop i).take 1) = xs[i]?) (hd : xs.map (·.1) = ds) (hi : ds[i]? = some (.lit (.bool z))) : cs[i]? = some (.bool z) := by
 rw [← hd, List.getElem?_map] at hi
 obtain ⟨x, hx, hz⟩ := Option.map_eq_some_iff.1 hi
 obtain ⟨n, hn, rfl⟩ := DataW.trod_bool Tryz.underlying4 (hf.trans hx)
 simp at hz
 subst hz
 have := congrArg (·[0]?) hn
 simpa [List.getElem?_take, List.getElem?_drop] using this
def formD (x : Form) : DataW Unit := .agg [.lit (.int .i64 x.least), .lit (.int .i64 x.most), .lit (.int .i64 x.val), .lit (.int .i64 x.bound), .lit (.bool x.named), .lit (.bool x.past), .lit (.bool x.future), .lit (.bool x.loose)]
theorem form_piece {w : World} {fuel : Nat} {cs : List Value} {p : Form} {q : List MemPlace} (h : DataW.trod (fun _ => ()) Tryz.prog w 0 (fun _ => true) false fuel 175 cs = some (formD p, q)) : cs = B9 p := by
 have hc : Tryz.prog.cellsOf 175 = 8 := by kernel_rfl
 have h8 : Tryz.prog.cellsOf 4 = 1 := by kernel_rfl
 have hi : Tryz.prog.cellsOf 3 = 1 := by kernel_rfl
 obtain ⟨xs, n, _, hx, hcl, hxl, hf⟩ := DataW.trod_struct Tryz.underlying175 h
 rw [hc] at hcl
 have hd : xs.map (·.1) = [.lit (.int .i64 p.least), .lit (.int .i64 p.most), .lit (.int .i64 p.val), .lit (.int .i64 p.bound), .lit (.bool p.named), .lit (.bool p.past), .lit (.bool p.future), .lit (.bool p.loose)] := by
  have := congrArg Prod.fst hx
  simpa [formD] using this.symm
 have f0 : DataW.trod (fun _ => ()) Tryz.prog w 0 (fun _ => true) false n 3 ((cs.drop 0).take (Tryz.prog.cellsOf 3)) = xs[0]? := hf 0 _ rfl
 have f1 : DataW.trod (fun _ => ()) Tryz.prog w 0 (fun _ => true) false n 3 ((cs.drop 1).take (Tryz.prog.cellsOf 3)) = xs[1]? := hf 1 _ rfl
 have f2 : DataW.trod (fun _ => ()) Tryz.prog w 0 (fun _ => true) false n 3 ((cs.drop 2).take (Tryz.prog.cellsOf 3)) = xs[2]? := hf 2 _ rfl
 have f3 : DataW.trod (fun _ => ()) Tryz.prog w 0 (fun _ => true) false n 3 ((cs.drop 3).take (Tryz.prog.cellsOf 3)) = xs[3]? := hf 3 _ rfl
 have f4 : DataW.trod (fun _ => ()) Tryz.prog w 0 (fun _ => true) false n 4 ((cs.drop 4).take (Tryz.prog.cellsOf 4)) = xs[4]? := hf 4 _ rfl
 have f5 : DataW.trod (fun _ => ()) Tryz.prog w 0 (fun _ => true) false n 4 ((cs.drop 5).take (Tryz.prog.cellsOf 4)) = xs[5]? := hf 5 _ rfl
 have f6 : DataW.trod (fun _ => ()) Tryz.prog w 0 (fun _ => true) false n 4 ((cs.drop 6).take (Tryz.prog.cellsOf 4)) = xs[6]? := hf 6 _ rfl
 have f7 : DataW.trod (fun _ => ()) Tryz.prog w 0 (fun _ => true) false n 4 ((cs.drop 7).take (Tryz.prog.cellsOf 4)) = xs[7]? := hf 7 _ rfl
 rw [hi] at f0 f1 f2 f3
 rw [h8] at f4 f5 f6 f7
 apply List.ext_getElem?
 intro i
 match i with
 | 0 => exact int_at f0 hd rfl
 | 1 => exact int_at f1 hd rfl
 | 2 => exact int_at f2 hd rfl
 | 3 => exact int_at f3 hd rfl
 | 4 => exact bool_at f4 hd rfl
 | 5 => exact bool_at f5 hd rfl
 | 6 => exact bool_at f6 hd rfl
 | 7 => exact bool_at f7 hd rfl
 | i + 8 => rw [List.getElem?_eq_none (by omega), List.getElem?_eq_none (by simp [B9])]
def laidL : List (String × DataW Unit) := [("math/bits.deBruijn32tab", Rows.laid_math_bits_deBruijn32tab), ("math/bits.deBruijn64tab", Rows.laid_math_bits_deBruijn64tab), ("internal/strconv.uint64pow10", Rows.laid_internal_strconv_uint64pow10), ("strconv.ErrRange", Rows.laid_strconv_ErrRange), ("strconv.ErrSyntax", Rows.laid_strconv_ErrSyntax), ("foresight/signal.keys", Rows.laid_foresight_signal_keys), ("foresight/formula.forms", Rows.laid_foresight_formula_forms), ("foresight/lexer.spans", Rows.laid_foresight_lexer_spans), ("foresight/lexer.symbols", Rows.laid_foresight_lexer_symbols)]
theorem gp_of_laid {W : World} (h : laidMetH Tryz.prog laidL W) : GP W ∧ GF W := by
 have h' : laidMet Tryz.prog laidL W := h
 obtain ⟨ps, ⟨g1, t1, cs1, fu1, p1, q1, hg1, ht1, hv1, hd1, ⟨g2, t2, cs2, fu2, p2, q2, hg2, ht2, hv2, hd2, ⟨g3, t3, cs3, fu3, p3, q3, hg3, ht3, hv3, hd3, ⟨g4, t4, cs4, fu4, p4, q4, hg4, ht4, hv4, hd4, ⟨g5, t5, cs5, fu5, p5, q5, hg5, ht5, hv5, hd5, ⟨g6, t6, cs6, fu6, p6, q6, hg6, ht6, hv6, hd6, ⟨g9, t9, cs9, fu9, p9, q9, hg9, ht9, hv9, hd9, ⟨g7, t7, cs7, fu7, p7, q7, hg7, ht7, hv7, hd7, ⟨g8, t8, cs8, fu8, p8, q8, hg8, ht8, hv8, hd8, _, _⟩, _⟩, _⟩, _⟩, _⟩, _⟩, _⟩, _⟩, _⟩, _⟩ := h'
 have n2 : Tryz.prog.globalNamed "math/bits.deBruijn64tab" = some 9 := by kernel_rfl
 have n6 : Tryz.prog.globalNamed "foresight/signal.keys" = some 3 := by kernel_rfl
 have n7 : Tryz.prog.globalNamed "foresight/lexer.spans" = some 0 := by kernel_rfl
 have n8 : Tryz.prog.globalNamed "foresight/lexer.symbols" = some 1 := by kernel_rfl
 have n9 : Tryz.prog.globalNamed "foresight/formula.forms" = some 2 := by kernel_rfl
 have n3 : Tryz.prog.globalNamed "internal/strconv.uint64pow10" = some 7 := by kernel_rfl
 have y9 : (Tryz.prog.globals[2]?).map (·.type) = some 200 := by kernel_rfl
 have y3 : (Tryz.prog.globals[7]?).map (·.type) = some 229 := by kernel_rfl
 have y6 : (Tryz.prog.globals[3]?).map (·.type) = some 201 := by kernel_rfl
 have y7 : (Tryz.prog.globals[0]?).map (·.type) = some 168 := by kernel_rfl
 have y8 : (Tryz.prog.globals[1]?).map (·.type) = some 198 := by kernel_rfl
 obtain rfl := Option.some.inj (n9.symm.trans hg9)
 obtain rfl := Option.some.inj (n3.symm.trans hg3)
 obtain rfl := Option.some.inj (y9.symm.trans ht9)
 obtain rfl := Option.some.inj (y3.symm.trans ht3)
 obtain rfl := Option.some.inj (n6.symm.trans hg6)
 obtain rfl := Option.some.inj (n7.symm.trans hg7)
 obtain rfl := Option.some.inj (n8.symm.trans hg8)
 obtain rfl := Option.some.inj (y6.symm.trans ht6)
 obtain rfl := Option.some.inj (y7.symm.trans ht7)
 obtain rfl := Option.some.inj (y8.symm.trans ht8)
 refine ⟨⟨⟨⟨?_, ?_, ?_⟩, ?_⟩, ?_⟩, ?_⟩
 ·obtain ⟨hl, m, hp⟩ := trod_arr (ds := spansL.map spanD) Tryz.underlying168 (by kernel_rfl : Tryz.prog.cellsOf 167 = 3) (by kernel_rfl) hd7
  intro j u hu
  have hj : j < 48 := (List.getElem?_eq_some_iff.1 hu).1
  obtain ⟨p, hsp⟩ : ∃ p, spansL[j / 3]? = some p := ⟨_, List.getElem?_eq_getElem (by show j / 3 < 16; omega)⟩
  obtain ⟨d, q, hd, ht⟩ := hp (j / 3) (by omega)
  rw [List.getElem?_map, hsp] at hd
  cases hd
  have e1 := span_piece ht
  have e2 := spanC_at spansL (j / 3) p hsp
  obtain ⟨v, hr⟩ : ∃ v, (spanC1 p)[j % 3]? = some v := ⟨_, List.getElem?_eq_getElem (by show j % 3 < 3; omega)⟩
  have c1 := C7 e1 hr
  have c2 := C7 e2 hr
  rw [show j / 3 * 3 + j % 3 = j by omega] at c1 c2
  have hu' : (spansL.flatMap spanC1)[j]? = some u := hu
  rw [c2] at hu'
  rw [Nat.zero_add, World.var?_cell n7 hv7 j]
  rw [← hu', ← c1]
  simp
 ·obtain ⟨hl, m, hp⟩ := trod_arr (ds := symsL.map fun l => .lit (.string l)) Tryz.underlying198 (by kernel_rfl : Tryz.prog.cellsOf 9 = 1) (by kernel_rfl) hd8
  intro j u hu
  have hj : j < 15 := (List.getElem?_eq_some_iff.1 hu).1
  obtain ⟨p, hsp⟩ : ∃ p, symsL[j]? = some p := ⟨_, List.getElem?_eq_getElem hj⟩
  obtain ⟨d, q, hd, ht⟩ := hp j hj
  rw [List.getElem?_map, hsp] at hd
  cases hd
  have c1 := C7 (r := 0) (sym_piece ht) rfl
  have hu' : (symsL.map AM)[j]? = some u := hu
  rw [List.getElem?_map, hsp] at hu'
  cases hu'
  rw [Nat.zero_add, World.var?_cell n8 hv8 j]
  simpa using c1
 ·have hv := hv2
  simp only [World.var?, n2, Option.bind_some] at hv
  split at hv
  ·rename_i e
   have := (Array.getElem?_eq_some_iff.1 e).1
   omega
  ·cases hv
 ·obtain ⟨hl, m, hp⟩ := trod_arr (ds := keysL.map fun l => .lit (.string l)) Tryz.underlying201 (by kernel_rfl : Tryz.prog.cellsOf 9 = 1) (by kernel_rfl) hd6
  intro j u hu
  have hj : j < 10 := (List.getElem?_eq_some_iff.1 hu).1
  obtain ⟨p, hsp⟩ : ∃ p, keysL[j]? = some p := ⟨_, List.getElem?_eq_getElem hj⟩
  obtain ⟨d, q, hd, ht⟩ := hp j hj
  rw [List.getElem?_map, hsp] at hd
  cases hd
  have c1 := C7 (r := 0) (sym_piece ht) rfl
  have hu' : (keysL.map AM)[j]? = some u := hu
  rw [List.getElem?_map, hsp] at hu'
  cases hu'
  rw [Nat.zero_add, World.var?_cell n6 hv6 j]
  simpa using c1
 ·have hc := Lib.cells_of_tab (zs := Lib.pow10Tab) (k := .u64) Tryz.underlying229 Tryz.underlying217 (by kernel_rfl) (by kernel_rfl) hd3
  unfold Lib.TabIs
  rw [hv3, ← hc]
 ·obtain ⟨hl, m, hp⟩ := trod_arr (ds := formsL.map formD) Tryz.underlying200 (by kernel_rfl : Tryz.prog.cellsOf 175 = 8) (by kernel_rfl) hd9
  intro j u hu
  have hj : j < 160 := (List.getElem?_eq_some_iff.1 hu).1
  obtain ⟨p, hsp⟩ : ∃ p, formsL[j / 8]? = some p := ⟨_, List.getElem?_eq_getElem (by show j / 8 < 20; omega)⟩
  obtain ⟨d, q, hd, ht⟩ := hp (j / 8) (by omega)
  rw [List.getElem?_map, hsp] at hd
  cases hd
  have e1 := form_piece ht
  obtain ⟨v, hr⟩ : ∃ v, (B9 p)[j % 8]? = some v := ⟨_, List.getElem?_eq_getElem (by show j % 8 < 8; omega)⟩
  have c1 := C7 e1 hr
  have c2 := formC_at formsL (j / 8) (j % 8) p v hsp hr
  rw [show j / 8 * 8 + j % 8 = j by omega] at c1 c2
  have hu' : (formsL.flatMap B9)[j]? = some u := hu
  rw [c2] at hu'
  rw [Nat.zero_add, World.var?_cell n9 hv9 j]
  rw [← hu', ← c1]
  simp
set_option maxRecDepth 100000 in
theorem law_liftedL {os : Os} (started : os.Started) {k : FuncId} {fn : Func} {s : ChangeSpec} {conds : List PathCond} {fresh : Bool} {H : Type} {enc : TypeId × Value → H} (F : Stop.Interp) (noInit : Tryz.prog.inits.idxOf? k = none) (hfn : Tryz.prog.funcs[k]? = some fn)
  (witness : ∃ (w : World) (tape : Tape) (i : Input), w.os = os ∧ (w.forCall tape i).Shaped Tryz.prog ∧ i.vars = [] ∧ Input.okWide Tryz.prog (w.forCall tape i) .any w.heap.size k i ∧
   (OpenSpec.ofChange s).preRow enc Tryz.prog fn conds false laidL (w.forCall tape i).memory i.args ∧ ({} : Assume).holds Tryz.prog (lone (Frame.enter Tryz.prog k i.args .normal) [] (w.forCall tape i)))
  (hs : s.vars = []) (hts : (fn.params.toList.all fun t => decide (t < Tryz.prog.types.size)) = true) (hrt : fn.resultTypes = #[4])
  (hspec : ∀ ds : List (DataW H), ds.length = fn.params.toList.length → s.fn H ds = { results := [.lit (.bool true)], args := ds })
  (law : ∀ (W : World) (base : Nat) (args : List Value) (ds : List (DataW H)) (p : List MemPlace), (∀ (j : Nat) t v, fn.params.toList[j]? = some t → args[j]? = some v → Value.okWide Tryz.prog W .any base t v) →
   DataW.TrodAll enc Tryz.prog W 0 (fun _ => true) true fn.params.toList args ds p → GP W ∧ GF W → Fn Tryz.prog k args W fun v w' => v = .bool true ∧ Ext W w') :
  ReturnsInHanded {} Tryz.checked os k .any ((OpenSpec.ofChange s).preRow enc Tryz.prog fn conds false laidL) (((OpenSpec.ofChange s).at F).post enc Tryz.prog fn false fresh false false) := by
 refine returnsInHanded_of_row (C := Tryz.checked) (s := OpenSpec.ofChange s) own started noInit hfn witness ?_
 intro W base args ds gs before hval hW _ _ _ hL _ _
 have hW' : DataW.Whole enc Tryz.prog fn.params.toList s.vars false W args.toList ds gs before := hW
 obtain ⟨p, q, hA, hV, rfl, hf, hn⟩ := hW
 have hg : gs = [] := by
  have hV' : DataW.TrodVars enc Tryz.prog W (fun _ => true) s.vars gs q := hV
  rw [hs] at hV'
  cases gs with
  | nil => rfl
  | cons _ _ => exact hV'.elim
 subst hg
 have hlen : ∀ {ts : List TypeId} {vs : List Value} {ds : List (DataW H)} {ps : List MemPlace}, DataW.TrodAll enc Tryz.prog W 0 (fun _ => true) true ts vs ds ps → ds.length = ts.length := by
  intro ts
  induction ts with
  | nil => intro vs ds ps h; obtain ⟨rfl, rfl, rfl⟩ := trodAll_nil h; rfl
  | cons t ts ih => intro vs ds ps h; obtain ⟨v, vs1, d, ds1, a, b, rfl, rfl, rfl, h1, h2⟩ := trodAll_cons h; simp [ih h2]
 refine Calls.mono (law W base args.toList ds p (fun j t v h1 h2 => hval j t v (Array.getElem?_toList.symm.trans h1) (Array.getElem?_toList.symm.trans h2)) hA (gp_of_laid hL)) fun e W' he => ?_
 cases e with
 | returned v =>
  refine ⟨v, rfl, post_of_ext kids full (fun t ht => of_decide_eq_true (List.all_eq_true.1 hts t ht)) hs hW' ?_ hrt Tryz.underlying4 he.1 he.2⟩
  rw [List.append_nil]; exact hspec ds (hlen hA)
 | panicked ch => exact he.elim
 | outgrown => exact he.elim
def layC (cs : List Value) : Obj → Obj
 | .cells _ t frozen => .cells cs.toArray t frozen
 | o => o
def tabC : DataW Unit → List Value
 | .agg l => l.map fun d => match d with | .lit (.int k z) => .int k z | _ => .bool false
 | _ => []
noncomputable def laidWorld (os : Os) : World :=
 let w := World.holding Tryz.prog os ⟨#[.cells #[AM [118, 97, 108, 117, 101, 32, 111, 117, 116, 32, 111, 102, 32, 114, 97, 110, 103, 101]] 236, .cells #[AM [105, 110, 118, 97, 108, 105, 100, 32, 115, 121, 110, 116, 97, 120]] 236], #[], []⟩
 { w with heap := (((((((((w.heap.modify 2 (layC formC)).modify 0 (layC spanC)).modify 1 (layC symC)).modify 3 (layC keyC)).modify 6 (layC [.iface 234 (.pointer (some ⟨15, 0, none⟩))])).modify 5 (layC [.iface 234 (.pointer (some ⟨16, 0, none⟩))])).modify 7 (layC (tabC Rows.laid_internal_strconv_uint64pow10))).modify 8 (layC (tabC Rows.laid_math_bits_deBruijn32tab))).modify 9 (layC (tabC Rows.laid_math_bits_deBruijn64tab))) }
end Go.Proofs.YtfcgdbmoncnibaaGreatDoor
namespace Go.Proofs.YtfcgdbmoncnibaaGreatDoor
open Go.ChangeShapes Go.WideShapes Go.ChangeAt Go.RowKit
set_option linter.unusedVariables false
set_option maxRecDepth 100000 in
theorem PrinterParentheses_open {H : Type} {enc : TypeId × Value → H} (W : World) (base : Nat) (args : List Value) (ds : List (DataW H)) (p : List MemPlace) (hval : ∀ (j : Nat) t v, Tryz.f7.params.toList[j]? = some t → args[j]? = some v → Value.okWide Tryz.prog W .any base t v)
  (hA : DataW.TrodAll enc Tryz.prog W 0 (fun _ => true) true Tryz.f7.params.toList args ds p) (hG : GP W ∧ GF W) : Fn Tryz.prog 7 args W fun v w' => v = .bool true ∧ Ext W w' := by
 rw [Tryz.params7] at hA hval
 obtain ⟨v0, _, d0, _, p0, q0, rfl, rfl, rfl, h0, r0⟩ := trodAll_cons hA
 obtain ⟨rfl, rfl, rfl⟩ := trodAll_nil r0
 obtain ⟨f, hf⟩ := arg_fml (hval 0 _ v0 rfl rfl) h0
 exact parens_ok W v0 f hf hG.1 hG.2
theorem PrinterParentheses_laidMet (os : Os) : laidMet Tryz.prog laidL ((laidWorld os).forCall (fun _ _ => 0) ⟨#[], #[.agg #[.int .i64 0, AM [], .int .i64 0, .int .i64 0, .slice none 0 0]], []⟩).memory := laidMet_of_run' 8 (by kernel_rfl) (by kernel_rfl)
theorem PrinterParentheses_reads (os : Os) {H : Type} (enc : TypeId × Value → H) : ∃ places, DataW.whole enc Tryz.prog ((laidWorld os).forCall (fun _ _ => 0) ⟨#[], #[.agg #[.int .i64 0, AM [], .int .i64 0, .int .i64 0, .slice none 0 0]], []⟩).memory Tryz.f7.params.toList Rows.printerParenthesesSpec.vars false #[.agg #[.int .i64 0, AM [], .int .i64 0, .int .i64 0, .slice none 0 0]].toList 8 = some ([.agg [.lit (.int .i64 0), .lit (.string []), .lit (.int .i64 0), .lit (.int .i64 0), .nil]], [], places) := ⟨[], by kernel_rfl⟩
set_option maxRecDepth 100000 in
theorem PrinterParentheses_lifted (os : Os) (started : os.Started) (H : Type) (enc : TypeId × Value → H) (F : Stop.Interp) :
  ReturnsInHanded {} Tryz.checked os 7 .any ((OpenSpec.ofChange Rows.printerParenthesesSpec).preRow enc Tryz.prog Tryz.f7 Rows.printerParenthesesRow.domain false Rows.printerParenthesesRow.laid) (((OpenSpec.ofChange Rows.printerParenthesesSpec).at F).post enc Tryz.prog Tryz.f7 false true false false) := by
 obtain ⟨places, hx⟩ := PrinterParentheses_reads os enc
 exact law_liftedL started F (by kernel_rfl) Tryz.func7
  (witness_row_atRef (enc := enc) (C := Tryz.checked) false (laidWorld os) #[.agg #[.int .i64 0, AM [], .int .i64 0, .int .i64 0, .slice none 0 0]] rfl (by kernel_rfl) (by kernel_rfl) (by kernel_rfl)
   (OpenSpec.preRow_of_cond 8 hx (by kernel_rfl) (fun k hk => by cases hk) (by kernel_rfl) (PrinterParentheses_laidMet os))) rfl (by kernel_rfl) (by kernel_rfl)
  (fun ds h => by
   match ds, h with
   | [d1], _ => rfl) PrinterParentheses_open
theorem PrinterParentheses_said : Rows.PrinterParenthesesSaid :=
 OpenClaim.holds_of_cond 7 Tryz.f7 rfl rfl rfl rfl rfl rfl rfl ⟨rfl, rfl, rfl, rfl, rfl⟩ rfl rfl rfl rfl rfl (by kernel_rfl) Tryz.func7 (by kernel_rfl)
  (of_decide_eq_true (by kernel_rfl)) (by unfold Func.isWrapper; first | (rw [if_pos (by decide +kernel)]; kernel_rfl) | (rw [if_neg (by decide +kernel)]; exact ⟨rfl, rfl⟩))
  (fun os started H enc _ F => by rw [OpenClaim.pre_eq_preRow]; exact PrinterParentheses_lifted os started H enc F)
theorem PrinterParentheses_plain (f : FuncId) (fn : Func) (hf : Tryz.pinned.checked.prog.funcNamed "foresight/foresightlaw06.PrinterParentheses" = some f) (hfn : Tryz.pinned.checked.prog.funcs[f]? = some fn) :
  true = Tryz.pinned.checked.prog.looks [] ∧ ∀ (j : Nat) t, fn.params[j]? = some t → Tryz.pinned.checked.prog.wantsStandIn t = false := by
 obtain rfl : f = 7 := Option.some.inj ((show Tryz.prog.funcNamed "foresight/foresightlaw06.PrinterParentheses" = some 7 by kernel_rfl).symm.trans hf) |>.symm
 obtain rfl : fn = Tryz.f7 := (Option.some.inj (Tryz.func7.symm.trans hfn)).symm
 refine ⟨by kernel_rfl, fun j t ht => ?_⟩
 have hall : (Tryz.f7.params.toList.all fun t => !Tryz.prog.wantsStandIn t) = true := by kernel_rfl
 have := List.all_eq_true.1 hall t (by simpa using Array.mem_of_getElem? ht)
 exact Bool.not_eq_true' _ |>.mp this
theorem PrinterParentheses_proved : Rows.PrinterParenthesesCardSaid :=
 Claim7.holds_tied_plain_at .later [] _ _ _ _ PrinterParentheses_said (fun _ h => by cases h) (by kernel_rfl) (fun _ h => by cases h) printerParentheses_row_tie rfl ⟨rfl, rfl⟩ (by kernel_rfl) rfl PrinterParentheses_plain (by kernel_rfl)
end Go.Proofs.YtfcgdbmoncnibaaGreatDoor
