/- A law's close: what the walk gives, as the row wants it; arguments opened. Conditions: none. -/
import Derived.Test.YtfbahfibgmdlnaaTy
import Derived.WalkKit
import Derived.ProofKit
import Derived.OpenShut
import Derived.JoinedCond
import Derived.ChangeStays
import Derived.ReadAgain
import Derived.Deep.Slices
namespace Go.Proofs.Ytfbahfibgmdlnaa
open Go.ChangeShapes Go.WideShapes Go.ChangeAt Go.RowKit
open Go.ChangeMaps (open_string)

section
variable {H : Type} {enc : TypeId × Value → H} {P : Program} {W W' : World}

theorem sameAt_ext (he : Ext W W') {p : MemPlace} (hp : p.block < W.heap.size) : W.sameAt W' p := by
  cases p with
  | cell b off => exact World.cell?_of_block (w := W) (a := ⟨b, off, none⟩) (he.block b hp (by simp))
  | map b => exact he.block b hp (by simp)

theorem trodAll_ext (K : Kids P (· < P.types.size)) (hz : ∀ t e, t < P.types.size → P.underlying t = some (.slice e) → 0 < P.cellsOf e) (he : Ext W W') {sp : Nat → Bool} :
    ∀ {ts : List TypeId} {vs : List Value} {ds : List (DataW H)} {ps : List MemPlace}, (∀ t ∈ ts, t < P.types.size) → DataW.TrodAll enc P W 0 (fun _ => true) true ts vs ds ps →
      (∀ p ∈ ps, p.block < W.heap.size) → (∀ p ∈ ps, sp p.block = true) → DataW.TrodAll enc P W' 0 sp true ts vs ds ps
  | [], [], [], _, _, h, _, _ => h
  | _ :: _, _ :: _, _ :: _, _, hT, ⟨p, q, ⟨n, h1⟩, h2, e⟩, hl, hs => by
    subst e
    refine ⟨p, q, ⟨n, DataW.trod_stays K (fun ht hu => hz _ _ ht hu) (fun h => by cases h) (hT _ (by simp)) h1 (fun x hx => sameAt_ext he (hl x (List.mem_append_left _ hx))) fun x hx => hs x (List.mem_append_left _ hx)⟩, ?_, rfl⟩
    exact trodAll_ext K hz he (fun t ht => hT t (List.mem_cons_of_mem _ ht)) h2 (fun x hx => hl x (List.mem_append_right _ hx)) fun x hx => hs x (List.mem_append_right _ hx)

theorem keptBut_ext (he : Ext W W') (may : MemPlace → Prop) : W.keptBut W' may := by
  refine ⟨he.os, he.output, fun i hi => ?_⟩
  rw [he.block i hi (by simp)]
  exact (World.keptBut_refl W may).2.2 i hi

/-- a law that answers true in a world where all is as it was -/
theorem post_of_ext (K : Kids P (· < P.types.size)) (hz : ∀ t e, t < P.types.size → P.underlying t = some (.slice e) → 0 < P.cellsOf e) {f : Func} {s : ChangeSpec} {apart fresh handsOn : Bool} {args : Array Value} {v : Value} {ds gs : List (DataW H)} {before : List MemPlace} {tb : TypeId}
    (hts : ∀ t ∈ f.params.toList, t < P.types.size) (hs : s.vars = []) (hW : DataW.Whole enc P f.params.toList s.vars apart W args.toList ds gs before)
    (hfn : s.fn H (ds ++ gs) = { results := [.lit (.bool true)], args := ds }) (hrt : f.resultTypes = #[tb]) (htb : P.underlying tb = some .bool) (hv : v = .bool true) (he : Ext W W') :
    s.post enc P f apart fresh handsOn false W args v W' := by
  subst hv
  have hlt : ∀ p ∈ before, p.block < W.heap.size := hW.lt
  obtain ⟨p, q, hA, hV, rfl, hf, hn⟩ := id hW
  have hq : gs = [] ∧ q = [] := by
    rw [hs] at hV
    cases gs with
    | nil => exact ⟨rfl, hV⟩
    | cons _ _ => exact hV.elim
  obtain ⟨rfl, rfl⟩ := hq
  refine ⟨ds, [], _, [], p, [], hW, ?_, ?_, ?_, keptBut_ext he _, (fun h => by cases h)⟩
  · rw [hfn, hrt]
    exact trodAll_cons_mk (shut_bool htb true) trodAll_mk0
  · rw [hfn]
    exact trodAll_ext K hz he hts hA (fun x hx => hlt x (List.mem_append_left _ hx)) fun x hx => by simpa using hlt x (List.mem_append_left _ hx)
  · rw [hfn, hs]; exact rfl
end

theorem kids : Kids Try.prog (· < Try.prog.types.size) := kids_rows (by kernel_rfl) (by kernel_rfl)
theorem full : ∀ t e, t < Try.prog.types.size → Try.prog.underlying t = some (.slice e) → 0 < Try.prog.cellsOf e := slices_full_of Try.prog (by kernel_rfl)
theorem own : ownKnob Try.prog.godebug = none := by kernel_rfl

/-! ### Arguments opened -/
section
variable {H : Type} {enc : TypeId × Value → H} {P : Program} {W : World} {sp : Nat → Bool} {hd : Bool}

theorem cells8_of (zs : List Int) (h : ∀ n ∈ zs, (Lit.int .u8 n).wf = true) : ∃ l : List UInt8, l.length = zs.length ∧ ∀ i, i < zs.length → Value.int .u8 (zs.getD i 0) = enc8 (l.getD i 0) := by
  refine ⟨zs.map fun n => UInt8.ofNat n.toNat, by simp, fun i hi => ?_⟩
  have := h zs[i] (List.getElem_mem hi)
  have hx : 0 ≤ zs[i] ∧ zs[i] ≤ 255 := by simpa [Lit.wf, IntKind.min, IntKind.max, IntKind.signed, IntKind.bits] using this
  simp only [enc8, List.getD_eq_getElem?_getD, List.getElem?_map, List.getElem?_eq_getElem hi, Option.map_some, Option.getD_some, UInt8.toNat_ofNat']
  congr 1
  omega

theorem spot_none {a : Addr} {v : Value} (h : W.cell? a = some v) : a.spot = none := by
  cases ha : a.spot with
  | none => rfl
  | some _ =>
    unfold World.cell? at h
    split at h
    · simp [ha] at h
    · cases h

theorem open_bytes {t e : TypeId} {fuel : Nat} {cs : List Value} {x : DataW H × List MemPlace} (ht : P.underlying t = some (.slice e)) (he : P.underlying e = some (.int .u8)) (hc : P.cellsOf e = 1)
    (h : DataW.trod enc P W 0 sp hd fuel t cs = some x) : ∃ v l, cs = [v] ∧ BytesAt anyB W v l := by
  rcases open_ints ht he hc h with ⟨rfl, _⟩ | ⟨a, len, cap, zs, rfl, _, hl, hm, hz, _, hcell, hw⟩
  · exact ⟨_, [], rfl, none, 0, rfl, Nat.le_refl _, by omega, fun _ => rfl, .inl rfl⟩
  · obtain ⟨l, hll, hli⟩ := cells8_of zs hw
    have hzl : len ≤ zs.length := by rw [hz]; split <;> omega
    refine ⟨_, l.take len, rfl, some a, cap, ?_, ?_, ?_, (fun h => by cases h), ?_⟩
    · simp; omega
    · simp; omega
    · simp only [maxLen] at hm; omega
    · by_cases h0 : len = 0
      · left; simp [h0]
      · right
        have hsub : a.spot = none := by
          exact spot_none (a := a.add 0) (hcell 0 (by omega))
        obtain ⟨b, off, s⟩ := a
        simp only at hsub
        subst hsub
        refine ⟨b, off, rfl, trivial, fun i u hu => ?_⟩
        have hi : i < len := by
          have := (List.getElem?_eq_some_iff.1 hu).1
          rw [cells8_length] at this; simp at this; omega
        rw [cells8_get (by simp; omega)] at hu
        cases hu
        have h1 := hcell i (by omega)
        rw [Addr.add_lit, hli i (by omega)] at h1
        rw [h1]
        congr 2
        simp [List.getD_eq_getElem?_getD, hi]

theorem open_LB {t e q : TypeId} {fuel : Nat} {cs : List Value} {x : DataW H × List MemPlace} (ht : P.underlying t = some (.slice e)) (he : P.underlying e = some (.slice q)) (hq : P.underlying q = some (.int .u8)) (ce : P.cellsOf e = 1) (cq : P.cellsOf q = 1)
    (h : DataW.trod enc P W 0 sp hd fuel t cs = some x) : ∃ v ls, cs = [v] ∧ LB anyB W v ls := by
  rcases Deep.open_slice1 ht ce h with ⟨rfl, _⟩ | ⟨a, len, cap, m, n, V, D, Pl, rfl, _, hl, hm, hmm, _, hx⟩
  · exact ⟨_, [], rfl, [], ⟨none, 0, rfl, Nat.le_refl _, by omega, fun _ => rfl, .inl rfl⟩, rfl, fun i u l hu => by simp at hu⟩
  · have hml : len ≤ m := by rw [hmm]; split <;> omega
    obtain ⟨L, hL⟩ := Deep.choose_lt (α := List UInt8) (n := m) (p := fun i l => BytesAt anyB W (V i) l) fun i hi => by
      obtain ⟨v, l, e1, e2⟩ := open_bytes he hq cq (hx i hi).2
      cases e1
      exact ⟨l, e2⟩
    refine ⟨_, (List.range len).map L, rfl, (List.range len).map V, ⟨some a, cap, by simp, by simp; omega, by simp only [maxLen] at hm; omega, (fun h => by cases h), ?_⟩, by simp, ?_⟩
    · by_cases h0 : len = 0
      · left; simp [h0]
      · right
        have hsub : a.spot = none := by
          exact spot_none (a := a.add 0) (hx 0 (by omega)).1
        obtain ⟨b, off, s⟩ := a
        simp only at hsub
        subst hsub
        refine ⟨b, off, rfl, trivial, fun i u hu => ?_⟩
        obtain ⟨hi, rfl⟩ := List.getElem?_eq_some_iff.1 hu
        simp at hi
        have := (hx i (by omega)).1
        rw [Addr.add_lit] at this
        rw [this]; simp
    · intro i u l hu hl
      obtain ⟨hi, rfl⟩ := List.getElem?_eq_some_iff.1 hu
      obtain ⟨_, rfl⟩ := List.getElem?_eq_some_iff.1 hl
      simp at hi
      simp only [List.getElem_map, List.getElem_range]
      exact hL i (by omega)

theorem val_one {r : Reach} {t e : TypeId} {v u : Value} {b : Nat} (ht : P.underlying t = some (.slice e)) (hval : Value.okWide P W r b t v) (h : v.cells.toList = [u]) : v = u := by
  obtain ⟨a, l, c, rfl⟩ := okWide_slice ht hval
  simpa [Value.cells] using h
end

/-- a law's step: what is left is its walk -/
theorem law_lifted {os : Os} (started : os.Started) {k : FuncId} {fn : Func} {s : ChangeSpec} {conds : List PathCond} {fresh : Bool} {H : Type} {enc : TypeId × Value → H} (noInit : Try.prog.inits.idxOf? k = none) (hfn : Try.prog.funcs[k]? = some fn)
    (witness : ∃ (w : World) (tape : Tape) (i : Input), w.os = os ∧ (w.forCall tape i).Shaped Try.prog ∧ i.vars = [] ∧ Input.okWide Try.prog (w.forCall tape i) .any w.heap.size k i ∧
      s.pre6 enc Try.prog fn conds false (w.forCall tape i).memory i.args ∧ ({} : Assume).holds Try.prog (lone (Frame.enter Try.prog k i.args .normal) [] (w.forCall tape i)))
    (hs : s.vars = []) (hts : (fn.params.toList.all fun t => decide (t < Try.prog.types.size)) = true) (hrt : fn.resultTypes = #[4])
    (hspec : ∀ ds : List (DataW H), ds.length = fn.params.toList.length → s.fn H ds = { results := [.lit (.bool true)], args := ds })
    (law : ∀ (W : World) (base : Nat) (args : List Value) (ds : List (DataW H)) (p : List MemPlace), (∀ (j : Nat) t v, fn.params.toList[j]? = some t → args[j]? = some v → Value.okWide Try.prog W .any base t v) →
      DataW.TrodAll enc Try.prog W 0 (fun _ => true) true fn.params.toList args ds p → Fn Try.prog k args W fun v w' => v = .bool true ∧ Ext W w') :
    ReturnsInHanded {} Try.checked os k .any (s.pre6 enc Try.prog fn conds false) (s.post enc Try.prog fn false fresh false false) := by
  refine returnsInHanded_of_change (C := Try.checked) own started noInit hfn witness ?_
  intro W base args ds gs before hval hW _ _
  have hW' := hW
  obtain ⟨p, q, hA, hV, rfl, hf, hn⟩ := hW
  have hg : gs = [] := by
    rw [hs] at hV
    cases gs with
    | nil => rfl
    | cons _ _ => exact hV.elim
  subst hg
  have hlen : ∀ {ts : List TypeId} {vs : List Value} {ds : List (DataW H)} {ps : List MemPlace}, DataW.TrodAll enc Try.prog W 0 (fun _ => true) true ts vs ds ps → ds.length = ts.length := by
    intro ts
    induction ts with
    | nil => intro vs ds ps h; obtain ⟨rfl, rfl, rfl⟩ := trodAll_nil h; rfl
    | cons t ts ih => intro vs ds ps h; obtain ⟨v, vs1, d, ds1, a, b, rfl, rfl, rfl, h1, h2⟩ := trodAll_cons h; simp [ih h2]
  refine Calls.mono (law W base args.toList ds p (fun j t v h1 h2 => hval j t v (by simpa using h1) (by simpa using h2)) hA) fun e W' he => ?_
  cases e with
  | returned v =>
    refine ⟨v, rfl, post_of_ext kids full (fun t ht => of_decide_eq_true (List.all_eq_true.1 hts t ht)) hs hW' ?_ hrt Try.underlying4 he.1 he.2⟩
    rw [List.append_nil]; exact hspec ds (hlen hA)
  | panicked ch => exact he.elim
  | outgrown => exact he.elim

/-! ### Lists of payloads, cut and read -/
theorem LB.cut {w : World} {a : Option Addr} {n c : Nat} {ls : List (List UInt8)} (h : LB anyB w (.slice a n c) ls) {j : Nat} (hj : j ≤ ls.length) : LB anyB w (.slice a j c) (ls.take j) := by
  obtain ⟨vs, ⟨a', c', e, h1, h2, h3, h4⟩, h5, h6⟩ := h
  cases e
  have hlt : (ls.take j).length = j := by simp; omega
  refine ⟨vs.take j, ⟨a, c, by rw [hlt], by omega, h2, h3, ?_⟩, by simp; omega, fun i u l hu hl => ?_⟩
  · rcases h4 with h4 | ⟨b, off, rfl, hb, hc⟩
    · left; omega
    · right
      refine ⟨b, off, rfl, hb, fun i u hu => hc i u ?_⟩
      rw [List.getElem?_take] at hu
      split at hu
      · exact hu
      · cases hu
  · rw [List.getElem?_take] at hu hl
    split at hu
    · rename_i hi
      rw [if_pos hi] at hl
      exact h6 i u l hu hl
    · cases hu
theorem LB.get {w : World} {a : Option Addr} {n c : Nat} {ls : List (List UInt8)} (h : LB anyB w (.slice a n c) ls) {i : Nat} (hi : i < ls.length) :
    ∃ b o ua uc, a = some ⟨b, o, none⟩ ∧ w.cell? ⟨b, o + i, none⟩ = some (.slice ua ls[i].length uc) ∧ BytesAt anyB w (.slice ua ls[i].length uc) ls[i] := by
  obtain ⟨vs, ⟨a', c', e, h1, h2, h3, h4⟩, h5, h6⟩ := h
  cases e
  obtain ⟨b, o, rfl, _, hc⟩ := h4.resolve_left (by omega)
  have hv : i < vs.length := by omega
  have h7 := h6 i vs[i] ls[i] (by simp [hv]) (by simp [hi])
  have h8 := hc i vs[i] (by simp [hv])
  obtain ⟨ua, uc, e, _⟩ := id h7
  rw [e] at h7 h8
  exact ⟨b, o, ua, uc, rfl, h8, h7⟩
theorem LB.form {w : World} {v : Value} {ls : List (List UInt8)} (h : LB anyB w v ls) : ∃ a c, v = .slice a ls.length c ∧ ls.length ≤ c ∧ c ≤ 9223372036854775807 := by
  obtain ⟨vs, ⟨a, c, rfl, h1, h2, _⟩, _⟩ := h
  exact ⟨a, c, rfl, h1, h2⟩

end Go.Proofs.Ytfbahfibgmdlnaa
