/- A law's close: what the walk gives, as the row wants it; the common part. Conditions: none. -/
import Derived.Test.YteonolnfgppagaaDoorTy
import Derived.WalkKit
import Derived.ProofKit
import Derived.OpenShut
import Derived.JoinedCond
import Derived.ChangeStays
import Derived.ReadAgain
import Derived.Deep.Slices
namespace Go.Proofs.YteonolnfgppagaaDoor
open Go.ChangeShapes Go.WideShapes Go.ChangeAt Go.RowKit
open Go.ChangeMaps (open_string)

section
variable {H : Type} {enc : TypeId × Value → H} {P : Program} {W W' : World}

theorem sameAt_ext (he : Ext W W') {p : MemPlace} (hp : p.block < W.heap.size) : W.sameAt W' p := by
  cases p with
  | cell b off => exact World.cell?_of_block (w := W) (a := ⟨b, off, none⟩) (he.block b hp (by simp))
  | map b => exact he.block b hp (by simp)

theorem trodAll_ext (K : Kids P (· < P.types.size)) (hz : ∀ t e, t < P.types.size → P.underlying t = some (.slice e) → 0 < P.cellsOf e) (he : Ext W W') {sp : Nat → Bool} :
    ∀ {ts : List TypeId} {vs : List Value} {ds : List (DataW H)} {ps : List MemPlace}, (∀ t ∈ ts, t < P.types.size) → DataW.TrodAll enc P W 0 (fun _ => true) true ts vs ds ps →
      (∀ p ∈ ps, p.block < W.heap.size) → (∀ p ∈ ps, sp p.block = true) → DataW.TrodAll enc P W' 0 sp true ts vs ds ps
  | [], [], [], _, _, h, _, _ => h
  | _ :: _, _ :: _, _ :: _, _, hT, ⟨p, q, ⟨n, h1⟩, h2, e⟩, hl, hs => by
    subst e
    refine ⟨p, q, ⟨n, DataW.trod_stays K (fun ht hu => hz _ _ ht hu) (fun h => by cases h) (hT _ (by simp)) h1 (fun x hx => sameAt_ext he (hl x (List.mem_append_left _ hx))) fun x hx => hs x (List.mem_append_left _ hx)⟩, ?_, rfl⟩
    exact trodAll_ext K hz he (fun t ht => hT t (List.mem_cons_of_mem _ ht)) h2 (fun x hx => hl x (List.mem_append_right _ hx)) fun x hx => hs x (List.mem_append_right _ hx)

theorem keptBut_ext (he : Ext W W') (may : MemPlace → Prop) : W.keptBut W' may := by
  refine ⟨he.os, he.output, fun i hi => ?_⟩
  rw [he.block i hi (by simp)]
  exact (World.keptBut_refl W may).2.2 i hi

/-- a law that answers true in a world where all is as it was -/
theorem post_of_ext (K : Kids P (· < P.types.size)) (hz : ∀ t e, t < P.types.size → P.underlying t = some (.slice e) → 0 < P.cellsOf e) {f : Func} {s : ChangeSpec} {apart fresh handsOn : Bool} {args : Array Value} {v : Value} {ds gs : List (DataW H)} {before : List MemPlace} {tb : TypeId}
    (hts : ∀ t ∈ f.params.toList, t < P.types.size) (hs : s.vars = []) (hW : DataW.Whole enc P f.params.toList s.vars apart W args.toList ds gs before)
    (hfn : s.fn H (ds ++ gs) = { results := [.lit (.bool true)], args := ds }) (hrt : f.resultTypes = #[tb]) (htb : P.underlying tb = some .bool) (hv : v = .bool true) (he : Ext W W') :
    s.post enc P f apart fresh handsOn false W args v W' := by
  subst hv
  have hlt : ∀ p ∈ before, p.block < W.heap.size := hW.lt
  obtain ⟨p, q, hA, hV, rfl, hf, hn⟩ := id hW
  have hq : gs = [] ∧ q = [] := by
    rw [hs] at hV
    cases gs with
    | nil => exact ⟨rfl, hV⟩
    | cons _ _ => exact hV.elim
  obtain ⟨rfl, rfl⟩ := hq
  refine ⟨ds, [], _, [], p, [], hW, ?_, ?_, ?_, keptBut_ext he _, (fun h => by cases h)⟩
  · rw [hfn, hrt]
    exact trodAll_cons_mk (shut_bool htb true) trodAll_mk0
  · rw [hfn]
    exact trodAll_ext K hz he hts hA (fun x hx => hlt x (List.mem_append_left _ hx)) fun x hx => by simpa using hlt x (List.mem_append_left _ hx)
  · rw [hfn, hs]; exact rfl
end

theorem kids : Kids Tryd.prog (· < Tryd.prog.types.size) := kids_rows (by kernel_rfl) (by kernel_rfl)
theorem full : ∀ t e, t < Tryd.prog.types.size → Tryd.prog.underlying t = some (.slice e) → 0 < Tryd.prog.cellsOf e := slices_full_of Tryd.prog (by kernel_rfl)
theorem own : ownKnob Tryd.prog.godebug = none := by kernel_rfl

section
variable {H : Type} {enc : TypeId × Value → H} {P : Program} {W : World} {sp : Nat → Bool} {hd : Bool}
theorem spot_none {a : Addr} {v : Value} (h : W.cell? a = some v) : a.spot = none := by
  cases ha : a.spot with
  | none => rfl
  | some _ =>
    unfold World.cell? at h
    split at h
    · simp [ha] at h
    · cases h

theorem val_one {r : Reach} {t e : TypeId} {v u : Value} {b : Nat} (ht : P.underlying t = some (.slice e)) (hval : Value.okWide P W r b t v) (h : v.cells.toList = [u]) : v = u := by
  obtain ⟨a, l, c, rfl⟩ := okWide_slice ht hval
  simpa [Value.cells] using h
end
/-- a law's step: what is left is its walk -/
theorem law_lifted {os : Os} (started : os.Started) {k : FuncId} {fn : Func} {s : ChangeSpec} {conds : List PathCond} {fresh : Bool} {H : Type} {enc : TypeId × Value → H} (noInit : Tryd.prog.inits.idxOf? k = none) (hfn : Tryd.prog.funcs[k]? = some fn)
    (witness : ∃ (w : World) (tape : Tape) (i : Input), w.os = os ∧ (w.forCall tape i).Shaped Tryd.prog ∧ i.vars = [] ∧ Input.okWide Tryd.prog (w.forCall tape i) .any w.heap.size k i ∧
      s.pre6 enc Tryd.prog fn conds false (w.forCall tape i).memory i.args ∧ ({} : Assume).holds Tryd.prog (lone (Frame.enter Tryd.prog k i.args .normal) [] (w.forCall tape i)))
    (hs : s.vars = []) (hts : (fn.params.toList.all fun t => decide (t < Tryd.prog.types.size)) = true) (hrt : fn.resultTypes = #[4])
    (hspec : ∀ ds : List (DataW H), ds.length = fn.params.toList.length → s.fn H ds = { results := [.lit (.bool true)], args := ds })
    (law : ∀ (W : World) (base : Nat) (args : List Value) (ds : List (DataW H)) (p : List MemPlace), (∀ (j : Nat) t v, fn.params.toList[j]? = some t → args[j]? = some v → Value.okWide Tryd.prog W .any base t v) →
      DataW.TrodAll enc Tryd.prog W 0 (fun _ => true) true fn.params.toList args ds p → Fn Tryd.prog k args W fun v w' => v = .bool true ∧ Ext W w') :
    ReturnsInHanded {} Tryd.checked os k .any (s.pre6 enc Tryd.prog fn conds false) (s.post enc Tryd.prog fn false fresh false false) := by
  refine returnsInHanded_of_change (C := Tryd.checked) own started noInit hfn witness ?_
  intro W base args ds gs before hval hW _ _
  have hW' := hW
  obtain ⟨p, q, hA, hV, rfl, hf, hn⟩ := hW
  have hg : gs = [] := by
    rw [hs] at hV
    cases gs with
    | nil => rfl
    | cons _ _ => exact hV.elim
  subst hg
  have hlen : ∀ {ts : List TypeId} {vs : List Value} {ds : List (DataW H)} {ps : List MemPlace}, DataW.TrodAll enc Tryd.prog W 0 (fun _ => true) true ts vs ds ps → ds.length = ts.length := by
    intro ts
    induction ts with
    | nil => intro vs ds ps h; obtain ⟨rfl, rfl, rfl⟩ := trodAll_nil h; rfl
    | cons t ts ih => intro vs ds ps h; obtain ⟨v, vs1, d, ds1, a, b, rfl, rfl, rfl, h1, h2⟩ := trodAll_cons h; simp [ih h2]
  refine Calls.mono (law W base args.toList ds p (fun j t v h1 h2 => hval j t v (by simpa using h1) (by simpa using h2)) hA) fun e W' he => ?_
  cases e with
  | returned v =>
    refine ⟨v, rfl, post_of_ext kids full (fun t ht => of_decide_eq_true (List.all_eq_true.1 hts t ht)) hs hW' ?_ hrt Tryd.underlying4 he.1 he.2⟩
    rw [List.append_nil]; exact hspec ds (hlen hA)
  | panicked ch => exact he.elim
  | outgrown => exact he.elim

end Go.Proofs.YteonolnfgppagaaDoor
