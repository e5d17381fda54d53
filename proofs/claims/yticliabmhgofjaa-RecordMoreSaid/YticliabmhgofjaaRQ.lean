/- What records do, in plain Lean. Conditions: none. -/
import Derived.Test.YticliabmhgofjaaR7
namespace Go.Proofs.Yticliabmhgofjaa
set_option linter.unusedVariables false

theorem stepL_perm (r : List Int) (e : Evt) : (stepL r e).Perm r := by
  unfold stepL
  have h := List.filter_append_perm (fun x => !badB e x) r
  have e1 : r.filter (fun x => !(!badB e x)) = r.filter (badB e) := by congr 1; funext x; simp
  rwa [e1] at h
theorem stepL_mem {r : List Int} {e : Evt} {x : Int} : x ∈ stepL r e ↔ x ∈ r := (stepL_perm r e).mem_iff
theorem stepL_valid {r : List Int} {e : Evt} {n : Int} (h : validL r n = true) : validL (stepL r e) n = true := by
  obtain ⟨h1, h2, h3, h4, h5⟩ := (validL_iff r n).1 h
  exact (validL_iff _ n).2 ⟨h1, h2, by rw [stepL_length]; exact h3, fun x hx => h4 x (stepL_mem.1 hx), (stepL_perm r e).nodup_iff.2 h5⟩
theorem stepR_valid {r : List Int} {e : Evt} (h : validL r r.length = true) : stepR r e = (stepL r e, prioT e r r.length) := by rw [stepR, h]; rfl

/-- the place of a name -/
def pos (l : List Int) (g : Int) : Nat := l.findIdx (· == g)
theorem pos_cons (x : Int) (l : List Int) (g : Int) : pos (x :: l) g = if x = g then 0 else pos l g + 1 := by
  unfold pos
  rw [List.findIdx_cons]
  by_cases h : x = g
  · simp [h]
  · rw [beq_false_of_ne h, if_neg h]; rfl
theorem pos_lt {l : List Int} {g : Int} : pos l g < l.length ↔ g ∈ l := by
  unfold pos
  rw [List.findIdx_lt_length]
  simp
theorem posI_eq (l : List Int) (g : Int) : posI l g = if g ∈ l then (pos l g : Int) else -1 := by
  unfold posI pos
  by_cases h : g ∈ l <;> simp [h]
theorem pos_append {l m : List Int} {g : Int} : pos (l ++ m) g = if g ∈ l then pos l g else l.length + pos m g := by
  unfold pos
  rw [List.findIdx_append]
  have := @pos_lt l g
  unfold pos at this
  by_cases h : g ∈ l
  · rw [if_pos h, if_pos (this.2 h)]
  · rw [if_neg h, if_neg (fun hh => h (this.1 hh))]; omega
theorem pos_take {l : List Int} {g : Int} {p : Int → Bool} (hg : p g = true) : pos (l.filter p) g = ((l.take (pos l g)).filter p).length := by
  induction l with
  | nil => simp [pos]
  | cons x l ih =>
    rw [pos_cons]
    by_cases hx : x = g
    · subst hx
      rw [List.filter_cons, if_pos hg, pos_cons, if_pos rfl, if_pos rfl]; simp
    · rw [if_neg hx, List.take_succ_cons, List.filter_cons, List.filter_cons]
      cases hp : p x with
      | true => rw [if_pos rfl, if_pos rfl, pos_cons, if_neg hx, List.length_cons, ih]
      | false => rw [if_neg (by simp), if_neg (by simp), ih]
theorem pos_filter_le {l : List Int} {g : Int} {p : Int → Bool} (hg : p g = true) : pos (l.filter p) g ≤ pos l g := by
  rw [pos_take hg]
  have h1 := List.length_filter_le p (l.take (pos l g))
  have h2 := List.length_take_le (pos l g) l
  omega
theorem pos_inj {l : List Int} {a b : Int} (ha : a ∈ l) (h : pos l a = pos l b) : a = b := by
  induction l with
  | nil => cases ha
  | cons x l ih =>
    rw [pos_cons, pos_cons] at h
    by_cases h1 : x = a <;> by_cases h2 : x = b
    · rw [← h1, h2]
    · rw [if_pos h1, if_neg h2] at h; omega
    · rw [if_neg h1, if_pos h2] at h; omega
    · rw [if_neg h1, if_neg h2] at h
      rcases List.mem_cons.1 ha with e | ha
      · exact absurd e.symm h1
      · exact ih ha (by omega)
theorem pos_filter_lt {l : List Int} {a b : Int} {p : Int → Bool} (ha : p a = true) (hb : p b = true) (hne : a ≠ b) (hal : a ∈ l) (hbl : b ∈ l) : pos (l.filter p) a < pos (l.filter p) b ↔ pos l a < pos l b := by
  have mono : ∀ {a b : Int}, p a = true → p b = true → pos l a < pos l b → a ∈ l → pos (l.filter p) a < pos (l.filter p) b := by
    intro a b ha hb hlt hal
    rw [pos_take ha, pos_take hb]
    have h1 : l.take (pos l b) = l.take (pos l a) ++ (l.drop (pos l a)).take (pos l b - pos l a) := by
      rw [← List.take_add]; congr 1; omega
    rw [h1, List.filter_append, List.length_append]
    have hlen := pos_lt.2 hal
    have h2 : (l.drop (pos l a)).take (pos l b - pos l a) = l[pos l a] :: ((l.drop (pos l a + 1)).take (pos l b - pos l a - 1)) := by
      rw [List.drop_eq_getElem_cons hlen, show pos l b - pos l a = (pos l b - pos l a - 1) + 1 by omega, List.take_succ_cons]
      simp
    have h3 : l[pos l a] = a := by
      have h := List.findIdx_getElem (p := (· == a)) (xs := l) (w := hlen)
      exact eq_of_beq h
    rw [h2, h3, List.filter_cons, if_pos ha, List.length_cons]
    omega
  constructor
  · intro h
    rcases Nat.lt_trichotomy (pos l a) (pos l b) with hh | hh | hh
    · exact hh
    · exact absurd (pos_inj hal hh) hne
    · have := mono hb ha hh hbl; omega
  · exact fun h => mono ha hb h hal

/-! ### RecordStep -/
theorem pos_step_good {r : List Int} {e : Evt} {a : Int} (ha : a ∈ r) (hb : badB e a = false) : pos (stepL r e) a = pos (r.filter fun x => !badB e x) a := by
  unfold stepL
  rw [pos_append, if_pos (List.mem_filter.2 ⟨ha, by simp [hb]⟩)]
theorem pos_step_bad {r : List Int} {e : Evt} {a : Int} (hb : badB e a = true) : pos (stepL r e) a = (r.filter fun x => !badB e x).length + pos (r.filter (badB e)) a := by
  unfold stepL
  rw [pos_append, if_neg (fun h => by have := (List.mem_filter.1 h).2; simp [hb] at this)]
theorem step_same {r : List Int} {e : Evt} {a b : Int} (ha : a ∈ r) (hb : b ∈ r) (hne : a ≠ b) (hs : badB e a = badB e b) : pos (stepL r e) a < pos (stepL r e) b ↔ pos r a < pos r b := by
  cases h : badB e a with
  | true =>
    rw [pos_step_bad h, pos_step_bad (hs ▸ h)]
    have := pos_filter_lt (p := badB e) h (hs ▸ h) hne ha hb
    omega
  | false =>
    rw [pos_step_good ha h, pos_step_good hb (hs ▸ h)]
    exact pos_filter_lt (p := fun x => !badB e x) (by simp [h]) (by simp [← hs, h]) hne ha hb
theorem step_apart {r : List Int} {e : Evt} {a b : Int} (hb : b ∈ r) (h1 : badB e a = true) (h2 : badB e b = false) : pos (stepL r e) b < pos (stepL r e) a := by
  rw [pos_step_bad h1, pos_step_good hb h2]
  have := pos_lt.2 (List.mem_filter.2 ⟨hb, by simp [h2]⟩ : b ∈ r.filter fun x => !badB e x)
  omega
theorem step_forward {r : List Int} {e : Evt} {a : Int} (ha : a ∈ r) (h : badB e a = false) : pos (stepL r e) a ≤ pos r a := by
  rw [pos_step_good ha h]
  exact pos_filter_le (p := fun x => !badB e x) (by simp [h])
theorem step_past {r : List Int} {e : Evt} {a b : Int} (ha : a ∈ r) (hb : b ∈ r) (h : badB e a = false) (h2 : badB e b = true) (hlt : pos r b < pos r a) : pos (stepL r e) a < pos r a := by
  rw [pos_step_good ha h, pos_take (p := fun x => !badB e x) (by simp [h])]
  have hlen := pos_lt.2 hb
  have hbm : b ∈ r.take (pos r a) := by
    have h3 : r[pos r b] = b := by
      have h := List.findIdx_getElem (p := (· == b)) (xs := r) (w := hlen)
      exact eq_of_beq h
    exact List.mem_take_iff_getElem.2 ⟨pos r b, by have := pos_lt.2 ha; omega, h3⟩
  have h4 : ((r.take (pos r a)).filter fun x => !badB e x).length < (r.take (pos r a)).length := List.length_filter_lt_length_iff_exists.2 ⟨b, hbm, by simp [h2]⟩
  have h5 := List.length_take_le (pos r a) r
  omega

/-! ### RecordPriority -/
theorem prio_bad {e : Evt} {r : List Int} {k : Nat} (hk : k < r.length) (hpre : ∀ x ∈ r.take k, badB e x = false ∧ e.good.contains x = false) (h : badB e r[k] = true) : prioT e r r.length = ((2 * k + 1 : Nat) : Int) := by
  have h1 : r.findIdx (badB e) = k := by
    rw [List.findIdx_eq hk]
    exact ⟨h, fun j hj => (hpre _ (List.mem_take_iff_getElem.2 ⟨j, by omega, rfl⟩)).1⟩
  have h2 : k < r.findIdx (goodB e) := by
    refine List.lt_findIdx_of_not hk fun j hj => ?_
    by_cases hjk : j = k
    · subst hjk
      unfold badB at h
      simp only [goodB, h]
      simp
    · have := (hpre _ (List.mem_take_iff_getElem.2 ⟨j, by omega, rfl⟩)).2
      simp [goodB] at this ⊢
      intro hm; exact absurd hm this
  unfold prioT
  rw [h1, if_neg (by omega), if_pos h2]
theorem prio_good {e : Evt} {r : List Int} {k : Nat} (hk : k < r.length) (hpre : ∀ x ∈ r.take k, badB e x = false ∧ e.good.contains x = false) (h : badB e r[k] = false) (hg : e.good.contains r[k] = true) : prioT e r r.length = ((2 * k + 2 : Nat) : Int) := by
  have h1 : r.findIdx (goodB e) = k := by
    rw [List.findIdx_eq hk]
    refine ⟨by unfold badB at h; simp only [goodB, h, hg]; rfl, fun j hj => ?_⟩
    have := (hpre _ (List.mem_take_iff_getElem.2 ⟨j, by omega, rfl⟩)).2
    simp only [goodB, this]; rfl
  have h2 : k < r.findIdx (badB e) := by
    refine List.lt_findIdx_of_not hk fun j hj => ?_
    by_cases hjk : j = k
    · subst hjk; simp [h]
    · have := (hpre _ (List.mem_take_iff_getElem.2 ⟨j, by omega, rfl⟩)).1
      simp [this]
  unfold prioT
  rw [h1, if_pos h2]
theorem prio_none {e : Evt} {r : List Int} (hpre : ∀ x ∈ r, badB e x = false ∧ e.good.contains x = false) : prioT e r r.length = ((2 * r.length + 1 : Nat) : Int) := by
  have h1 : r.findIdx (badB e) = r.length := List.findIdx_eq_length.2 fun x hx => (hpre x hx).1
  have h2 : r.findIdx (goodB e) = r.length := List.findIdx_eq_length.2 fun x hx => by simp only [goodB, (hpre x hx).2]; rfl
  unfold prioT
  rw [h1, h2, if_neg (by omega), if_neg (by omega)]

/-! ### RecordMore -/
theorem more_valid {r : List Int} (h : validL r r.length = true) (hn : r.length ≤ 200) : validL (r ++ [(r.length : Int) + 1]) ((r.length : Int) + 1) = true := by
  obtain ⟨h1, h2, h3, h4, h5⟩ := (validL_iff _ _).1 h
  refine (validL_iff _ _).2 ⟨by omega, by omega, by simp, fun x hx => ?_, ?_⟩
  · rcases List.mem_append.1 hx with hx | hx
    · have := h4 x hx; omega
    · simp at hx; omega
  · rw [List.nodup_append]
    refine ⟨h5, by simp, fun a ha b hb => ?_⟩
    simp at hb
    have := h4 a ha
    omega
theorem more_step {r : List Int} {e : Evt} {z : Int} (hb : badB e z = false) : stepL (r ++ [z]) e = r.filter (fun x => !badB e x) ++ z :: r.filter (badB e) := by
  unfold stepL
  rw [List.filter_append, List.filter_append]
  simp [hb]
theorem more_prio {r : List Int} {e : Evt} {z : Int} (hb : badB e z = false) (hg : e.good.contains z = false) : prioT e (r ++ [z]) (r.length + 1) = prioT e r r.length ∨ (prioT e r r.length = ((2 * r.length + 1 : Nat) : Int) ∧ prioT e (r ++ [z]) (r.length + 1) = prioT e r r.length + 2) := by
  have hg' : goodB e z = false := by simp only [goodB, hg]; rfl
  rw [prioT_none hb hg']
  have h5 := findIdx_apart e r
  unfold prioT
  generalize r.findIdx (goodB e) = g at *
  generalize r.findIdx (badB e) = b at *
  repeat' split
  all_goals omega

/-! ### RecordRenames -/
section
variable {to : List Int} {n : Nat}
theorem ren_in (ht : validL to n = true) {x : Int} (h : 1 ≤ x ∧ x ≤ n) : 1 ≤ ren to x ∧ ren to x ≤ n := by
  obtain ⟨h1, h2, h3, h4, h5⟩ := (validL_iff _ _).1 ht
  have hl : to.length = n := by omega
  rw [ren, if_pos ⟨h.1, by omega⟩]
  have hlt : (x - 1).toNat < to.length := by omega
  rw [List.getD_eq_getElem?_getD, List.getElem?_eq_getElem hlt]
  exact h4 _ (List.getElem_mem hlt)
theorem ren_out (ht : validL to n = true) {x : Int} (h : ¬ (1 ≤ x ∧ x ≤ n)) : ren to x = x := by
  obtain ⟨h1, h2, h3, h4, h5⟩ := (validL_iff _ _).1 ht
  rw [ren, if_neg (by omega)]
theorem ren_inj (ht : validL to n = true) {x y : Int} (h : ren to x = ren to y) : x = y := by
  obtain ⟨h1, h2, h3, h4, h5⟩ := (validL_iff _ _).1 ht
  have hl : to.length = n := by omega
  by_cases hx : 1 ≤ x ∧ x ≤ n <;> by_cases hy : 1 ≤ y ∧ y ≤ n
  · rw [ren, ren, if_pos ⟨hx.1, by omega⟩, if_pos ⟨hy.1, by omega⟩] at h
    have hxl : (x - 1).toNat < to.length := by omega
    have hyl : (y - 1).toNat < to.length := by omega
    rw [List.getD_eq_getElem?_getD, List.getD_eq_getElem?_getD, List.getElem?_eq_getElem hxl, List.getElem?_eq_getElem hyl] at h
    have hpw := List.pairwise_iff_getElem.1 h5
    rcases Nat.lt_trichotomy (x - 1).toNat (y - 1).toNat with hlt | heq | hlt
    · exact absurd h (hpw _ _ hxl hyl hlt)
    · omega
    · exact absurd h.symm (hpw _ _ hyl hxl hlt)
  · have := ren_in ht hx
    rw [h, ren_out ht hy] at this
    exact absurd this hy
  · have := ren_in ht hy
    rw [← h, ren_out ht hx] at this
    exact absurd this hx
  · rwa [ren_out ht hx, ren_out ht hy] at h
def renE (to : List Int) (e : Evt) : Evt := ⟨e.good.map (ren to), e.bad.map (ren to)⟩
theorem ren_contains (ht : validL to n = true) (l : List Int) (x : Int) : (l.map (ren to)).contains (ren to x) = l.contains x := by
  rw [Bool.eq_iff_iff, List.contains_iff_mem, List.contains_iff_mem, List.mem_map]
  constructor
  · rintro ⟨y, hy, e⟩; rw [← ren_inj ht e]; exact hy
  · exact fun h => ⟨x, h, rfl⟩
theorem ren_bad (ht : validL to n = true) (e : Evt) (x : Int) : badB (renE to e) (ren to x) = badB e x := ren_contains ht _ _
theorem ren_good (ht : validL to n = true) (e : Evt) (x : Int) : goodB (renE to e) (ren to x) = goodB e x := by
  unfold goodB
  rw [show (renE to e).good.contains (ren to x) = e.good.contains x from ren_contains ht _ _, show (renE to e).bad.contains (ren to x) = e.bad.contains x from ren_contains ht _ _]
theorem ren_step (ht : validL to n = true) (e : Evt) (r : List Int) : stepL (r.map (ren to)) (renE to e) = (stepL r e).map (ren to) := by
  unfold stepL
  rw [List.map_append, List.filter_map, List.filter_map]
  congr 2
  · congr 1; funext x; simp only [Function.comp, ren_bad ht]
  · congr 1; funext x; simp only [Function.comp, ren_bad ht]
theorem ren_prio (ht : validL to n = true) (e : Evt) (r : List Int) (N : Nat) : prioT (renE to e) (r.map (ren to)) N = prioT e r N := by
  have h1 : (r.map (ren to)).findIdx (goodB (renE to e)) = r.findIdx (goodB e) := by
    rw [List.findIdx_map]; congr 1; funext x; exact ren_good ht e x
  have h2 : (r.map (ren to)).findIdx (badB (renE to e)) = r.findIdx (badB e) := by
    rw [List.findIdx_map]; congr 1; funext x; exact ren_bad ht e x
  unfold prioT
  rw [h1, h2]
theorem ren_valid (ht : validL to n = true) {r : List Int} (h : validL r n = true) : validL (r.map (ren to)) n = true := by
  obtain ⟨h1, h2, h3, h4, h5⟩ := (validL_iff _ _).1 h
  refine (validL_iff _ _).2 ⟨h1, h2, by rw [List.length_map]; exact h3, fun x hx => ?_, ?_⟩
  · obtain ⟨y, hy, rfl⟩ := List.mem_map.1 hx
    exact ren_in ht (h4 y hy)
  · exact List.pairwise_map.2 (h5.imp fun hne e => hne (ren_inj ht e))
theorem ren_wins (ht : validL to n = true) (es : List Evt) : winsL n (es.map (renE to)) = winsL n es := by
  unfold winsL
  congr 1
  rw [Bool.eq_iff_iff, List.any_eq_true, List.any_eq_true]
  have hany : ∀ z, ((es.map (renE to)).any fun e => e.good.contains (ren to z)) = es.any (fun e => e.good.contains z) ∧ ((es.map (renE to)).any fun e => e.bad.contains (ren to z)) = es.any (fun e => e.bad.contains z) := by
    intro z
    rw [List.any_map, List.any_map]
    constructor
    · congr 1; funext e; exact ren_contains ht _ _
    · congr 1; funext e; exact ren_contains ht _ _
  rw [Int.toNat_natCast]
  constructor
  · rintro ⟨z, hz, h⟩
    have hz' := mem_upTo.1 hz
    simp only [inN, Bool.and_eq_true, decide_eq_true_eq] at hz'
    have hg := (Bool.and_eq_true_iff.1 h).1
    obtain ⟨e, he, hez⟩ := List.any_eq_true.1 hg
    obtain ⟨e0, he0, rfl⟩ := List.mem_map.1 he
    obtain ⟨y, hy, rfl⟩ := List.mem_map.1 (List.contains_iff_mem.1 hez)
    refine ⟨y, mem_upTo.2 ?_, ?_⟩
    · by_cases hyn : 1 ≤ y ∧ y ≤ n
      · simp [inN]; exact hyn
      · rw [ren_out ht hyn] at hz'; exact absurd hz' hyn
    · rw [← (hany y).1, ← (hany y).2]; exact h
  · rintro ⟨z, hz, h⟩
    have hz' := mem_upTo.1 hz
    simp only [inN, Bool.and_eq_true, decide_eq_true_eq] at hz'
    refine ⟨ren to z, mem_upTo.2 ?_, ?_⟩
    · have := ren_in ht hz'; simp [inN]; exact this
    · rw [(hany z).1, (hany z).2]; exact h
end

/-! ### RecordWins -/
def run (r : List Int) (es : List Evt) : List Int := es.foldl stepL r
theorem run_snoc (r : List Int) (es : List Evt) (e : Evt) : run r (es ++ [e]) = stepL (run r es) e := by simp [run, List.foldl_append]
theorem run_append (r : List Int) (a b : List Evt) : run r (a ++ b) = run (run r a) b := by simp [run, List.foldl_append]
theorem run_perm (r : List Int) (es : List Evt) : (run r es).Perm r := by
  induction es using snoc_ind with
  | h0 => exact List.Perm.refl _
  | h1 es e ih => rw [run_snoc]; exact (stepL_perm _ _).trans ih
theorem run_valid {r : List Int} (es : List Evt) {n : Int} (h : validL r n = true) : validL (run r es) n = true := by
  induction es using snoc_ind with
  | h0 => exact h
  | h1 es e ih => rw [run_snoc]; exact stepL_valid ih
theorem run_length (r : List Int) (es : List Evt) : (run r es).length = r.length := (run_perm r es).length_eq
theorem stepL_filter (l : List Int) (e : Evt) (p : Int → Bool) : (stepL l e).filter p = stepL (l.filter p) e := by
  unfold stepL
  rw [List.filter_append, List.filter_filter, List.filter_filter, List.filter_filter, List.filter_filter]
  congr 2 <;> funext x <;> exact Bool.and_comm _ _
theorem run_filter (l : List Int) (es : List Evt) (p : Int → Bool) : (run l es).filter p = run (l.filter p) es := by
  induction es using snoc_ind with
  | h0 => rfl
  | h1 es e ih => rw [run_snoc, run_snoc, stepL_filter, ih]

/-- what the events order -/
def Rel : List Evt → Int → Int → Prop
  | [], _, _ => True
  | e :: es, a, b => (badB e a = false ∧ badB e b = true) ∨ (badB e a = badB e b ∧ Rel es a b)
theorem run_sorted (l : List Int) (es : List Evt) : (run l es).Pairwise (Rel es.reverse) := by
  induction es using snoc_ind with
  | h0 => exact List.pairwise_of_forall (fun _ _ => trivial)
  | h1 es e ih =>
    rw [run_snoc, List.reverse_append]
    unfold stepL
    rw [List.pairwise_append]
    refine ⟨?_, ?_, fun a ha b hb => ?_⟩
    · refine List.Pairwise.imp_of_mem ?_ (ih.filter _)
      intro a b ha hb h
      have h1 := (List.mem_filter.1 ha).2
      have h2 := (List.mem_filter.1 hb).2
      exact .inr ⟨by simp at h1 h2; rw [h1, h2], h⟩
    · refine List.Pairwise.imp_of_mem ?_ (ih.filter _)
      intro a b ha hb h
      have h1 := (List.mem_filter.1 ha).2
      have h2 := (List.mem_filter.1 hb).2
      exact .inr ⟨by rw [h1, h2], h⟩
    · have h1 := (List.mem_filter.1 ha).2
      have h2 := (List.mem_filter.1 hb).2
      exact .inl ⟨by simpa using h1, h2⟩
theorem stepL_of_sorted {l : List Int} {e : Evt} (h : l.Pairwise fun a b => ¬ (badB e a = true ∧ badB e b = false)) : stepL l e = l := by
  unfold stepL
  induction l with
  | nil => rfl
  | cons x l ih =>
    obtain ⟨h1, h2⟩ := List.pairwise_cons.1 h
    have ih := ih h2
    rw [List.filter_cons, List.filter_cons]
    cases hx : badB e x with
    | false => simp only [Bool.not_false, if_true]; rw [if_neg (by simp), List.cons_append, ih]
    | true =>
      have hall : ∀ y ∈ l, badB e y = true := fun y hy => by
        cases hyb : badB e y with
        | true => rfl
        | false => exact absurd ⟨hx, hyb⟩ (h1 y hy)
      have e1 : l.filter (fun y => !badB e y) = [] := List.filter_eq_nil_iff.2 fun y hy => by simp [hall y hy]
      have e2 : l.filter (badB e) = l := List.filter_eq_self.2 hall
      rw [e1, e2]; simp
theorem run_of_sorted (es : List Evt) : ∀ l : List Int, l.Pairwise (Rel es.reverse) → run l es = l := by
  induction es using snoc_ind with
  | h0 => intro l _; rfl
  | h1 es e ih =>
    intro l hl
    rw [List.reverse_append] at hl
    have hcls : ∀ (p : Int → Bool), (∀ a b, p a = true → p b = true → badB e a = badB e b) → run (l.filter p) es = l.filter p := by
      intro p hp
      refine ih _ (List.Pairwise.imp_of_mem ?_ (hl.filter _))
      intro a b ha hb h
      have hab := hp a b (List.mem_filter.1 ha).2 (List.mem_filter.1 hb).2
      rcases h with h | h
      · rw [h.1, h.2] at hab; cases hab
      · exact h.2
    rw [run_snoc]
    have hst : stepL l e = l := stepL_of_sorted (hl.imp fun {a b} h => by
      rintro ⟨h1, h2⟩
      rcases h with h | h
      · rw [h1] at h; exact absurd h.1 (by simp)
      · rw [h1, h2] at h; exact absurd h.1 (by simp))
    have e1 : (run l es).filter (fun x => !badB e x) = l.filter (fun x => !badB e x) := by
      rw [run_filter]
      exact hcls _ fun a b ha hb => by simp at ha hb; rw [ha, hb]
    have e2 : (run l es).filter (badB e) = l.filter (badB e) := by
      rw [run_filter]
      exact hcls _ fun a b ha hb => by rw [ha, hb]
    unfold stepL at hst ⊢
    rw [e1, e2, hst]
/-- a second round changes nothing -/
theorem run_twice (l : List Int) (es : List Evt) : run (run l es) es = run l es := run_of_sorted es _ (run_sorted l es)

theorem roundR_run {r : List Int} (es : List Evt) (h : validL r r.length = true) : (roundR r es).1 = run r es := by
  induction es using snoc_ind with
  | h0 => rfl
  | h1 es e ih =>
    have hv := run_valid es h
    rw [roundR_snoc, run_snoc]
    dsimp only
    rw [ih, stepR_valid (by rw [run_length]; exact hv)]

theorem prioT_pos (e : Evt) (l : List Int) (N : Nat) : 1 ≤ prioT e l N := by unfold prioT; split <;> (try split) <;> omega
/-- the least priority of a round: one of the priorities, none is less -/
theorem roundR_least {r : List Int} (es : List Evt) (h : validL r r.length = true) : (es ≠ [] → ∃ A e B, es = A ++ e :: B ∧ (roundR r es).2 = prioT e (run r A) r.length) ∧ (es = [] → (roundR r es).2 = 0) ∧ ∀ A e B, es = A ++ e :: B → (roundR r es).2 ≤ prioT e (run r A) r.length := by
  induction es using snoc_ind with
  | h0 => exact ⟨fun h => absurd rfl h, fun _ => rfl, fun A e B h => by simp at h⟩
  | h1 es e ih =>
    obtain ⟨i1, i0, i2⟩ := ih
    have hv := run_valid es h
    have hs : (stepR (roundR r es).1 e).2 = prioT e (run r es) r.length := by
      rw [roundR_run es h, stepR_valid (by rw [run_length]; exact hv), run_length]
    rw [roundR_snoc]
    dsimp only
    rw [hs]
    have hpp := prioT_pos e (run r es) r.length
    refine ⟨fun _ => ?_, fun h => by simp at h, fun A f B hAB => ?_⟩
    · split
      · exact ⟨es, e, [], by simp, rfl⟩
      · rename_i hn
        have hne : es ≠ [] := fun h0 => hn (.inl (i0 h0))
        obtain ⟨A, f, B, hAB, hp⟩ := i1 hne
        exact ⟨A, f, B ++ [e], by rw [hAB]; simp, hp⟩
    · by_cases hB : B = []
      · subst hB
        have : es ++ [e] = A ++ [f] := hAB
        obtain ⟨rfl, hh⟩ := List.append_inj' this rfl
        cases hh
        split <;> omega
      · obtain ⟨B', g, rfl⟩ : ∃ B' g, B = B' ++ [g] := ⟨B.dropLast, B.getLast hB, (List.dropLast_concat_getLast hB).symm⟩
        have : es ++ [e] = (A ++ f :: B') ++ [g] := by rw [hAB]; simp
        obtain ⟨rfl, hh⟩ := List.append_inj' this rfl
        have := i2 A f B' rfl
        split
        · rename_i hh
          rcases hh with hh | hh
          · obtain ⟨A', e', B'', hAB', hp'⟩ := i1 (by simp)
            have := prioT_pos e' (run r A') r.length
            omega
          · omega
        · exact this

theorem pos_run {l : List Int} {g : Int} (hg : g ∈ l) (es : List Evt) (h : ∀ e ∈ es, badB e g = false) : pos (run l es) g ≤ pos l g := by
  induction es using snoc_ind with
  | h0 => exact Nat.le_refl _
  | h1 es e ih =>
    rw [run_snoc]
    have := ih fun f hf => h f (by simp [hf])
    have h2 := step_forward (r := run l es) (e := e) ((run_perm l es).mem_iff.2 hg) (h e (by simp))
    omega
theorem first_bad {es : List Evt} {g : Int} (h : ¬ ∀ e ∈ es, badB e g = false) : ∃ A f B, es = A ++ f :: B ∧ (∀ e ∈ A, badB e g = false) ∧ badB f g = true := by
  induction es with
  | nil => exact absurd (by simp) h
  | cons e es ih =>
    cases he : badB e g with
    | true => exact ⟨[], e, es, rfl, by simp, he⟩
    | false =>
      obtain ⟨A, f, B, h1, h2, h3⟩ := ih fun hh => h fun f hf => by
        rcases List.mem_cons.1 hf with rfl | hf
        · exact he
        · exact hh f hf
      exact ⟨e :: A, f, B, by rw [h1]; rfl, fun f hf => by
        rcases List.mem_cons.1 hf with rfl | hf
        · exact he
        · exact h2 f hf, h3⟩
theorem prio_le_bad {e : Evt} {l : List Int} {g : Int} {N : Nat} (hg : g ∈ l) (h : badB e g = true) (hN : l.length = N) : prioT e l N ≤ ((2 * pos l g + 1 : Nat) : Int) := by
  have h1 : l.findIdx (badB e) ≤ pos l g := by
    have hlt := pos_lt.2 hg
    have h3 : l[pos l g] = g := eq_of_beq (List.findIdx_getElem (p := (· == g)) (xs := l) (w := hlt))
    refine Nat.le_of_not_lt fun hlt2 => ?_
    have hnf := List.not_of_lt_findIdx hlt2
    simp only [h3, h] at hnf
    exact absurd hnf (by simp)
  have h5 := findIdx_apart e l
  have hlt := pos_lt.2 hg
  unfold prioT
  repeat' split
  all_goals omega
theorem prio_le_good {e : Evt} {l : List Int} {g : Int} {N : Nat} (hg : g ∈ l) (h : goodB e g = true) (hN : l.length = N) : prioT e l N ≤ ((2 * pos l g + 2 : Nat) : Int) := by
  have h1 : l.findIdx (goodB e) ≤ pos l g := by
    have hlt := pos_lt.2 hg
    have h3 : l[pos l g] = g := eq_of_beq (List.findIdx_getElem (p := (· == g)) (xs := l) (w := hlt))
    refine Nat.le_of_not_lt fun hlt2 => ?_
    have hnf := List.not_of_lt_findIdx hlt2
    simp only [h3, h] at hnf
    exact absurd hnf (by simp)
  have h5 := findIdx_apart e l
  have hlt := pos_lt.2 hg
  unfold prioT
  repeat' split
  all_goals omega

/-- a record has every name -/
theorem mem_of_full {r : List Int} (hnd : r.Nodup) (hin : ∀ x ∈ r, 1 ≤ x ∧ x ≤ (r.length : Int)) {g : Int} (hg : 1 ≤ g ∧ g ≤ (r.length : Int)) : g ∈ r := by
  refine Classical.byContradiction fun hno => ?_
  have key : ∀ (n : Nat) (l : List Int), l.Nodup → (∀ x ∈ l, 1 ≤ x ∧ x ≤ (n : Int)) → l.length ≤ n := by
    intro n
    induction n with
    | zero => intro l _ h; cases l with
      | nil => simp
      | cons x l => have := h x (by simp); omega
    | succ n ih =>
      intro l hl h
      have h1 := ih (l.filter fun x => !(x == ((n + 1 : Nat) : Int))) (hl.filter _) fun x hx => by
        have hx1 := (List.mem_filter.1 hx).1
        have hx2 := (List.mem_filter.1 hx).2
        have := h x hx1
        have hne : x ≠ ((n + 1 : Nat) : Int) := by simpa using hx2
        omega
      have h2 : l.length ≤ (l.filter fun x => !(x == ((n + 1 : Nat) : Int))).length + 1 := by
        clear h1 ih h
        induction l with
        | nil => simp
        | cons x l ih =>
          obtain ⟨hx, hl⟩ := List.nodup_cons.1 hl
          rw [List.filter_cons]
          by_cases hxe : x = ((n + 1 : Nat) : Int)
          · have : (l.filter fun y => !(y == ((n + 1 : Nat) : Int))) = l := List.filter_eq_self.2 fun y hy => by
              have : y ≠ ((n + 1 : Nat) : Int) := fun e => hx (by rw [hxe, ← e]; exact hy)
              simpa using this
            rw [if_neg (by simp [hxe]), this]; simp
          · rw [if_pos (by simpa using hxe)]
            have := ih hl
            simp only [List.length_cons]; omega
      omega
  have h3 := key r.length (g :: r) (List.nodup_cons.2 ⟨hno, hnd⟩) fun x hx => by
    rcases List.mem_cons.1 hx with rfl | hx
    · exact hg
    · exact hin x hx
  rw [List.length_cons] at h3
  omega
/-- a settled record: the least priority of a round is even if and only if a name is good in it and never bad -/
theorem least_even {r : List Int} {es : List Evt} (hv : validL r r.length = true) (hne : es ≠ []) (hfix : run r es = r) : (roundR r es).2 % 2 = 0 ↔ winsL r.length es = true := by
  obtain ⟨h1, hn6, _, hin, hnd⟩ := (validL_iff _ _).1 hv
  obtain ⟨i1, _, i2⟩ := roundR_least es hv
  obtain ⟨A, e, B, hes, hp⟩ := i1 hne
  have hall : ∀ z : Int, z ∈ r → 1 ≤ z ∧ z ≤ r.length := hin
  constructor
  · intro heven
    rw [hp] at heven i2
    -- even: a good name g at place k
    have hk : (run r A).findIdx (goodB e) < (run r A).findIdx (badB e) ∧ prioT e (run r A) r.length = ((2 * (run r A).findIdx (goodB e) + 2 : Nat) : Int) := by
      unfold prioT at heven ⊢
      split
      · rename_i h; exact ⟨h, rfl⟩
      · rename_i h
        rw [if_neg h] at heven
        split at heven <;> omega
    obtain ⟨hlt, hpr⟩ := hk
    have hkl : (run r A).findIdx (goodB e) < (run r A).length := by
      have := List.findIdx_le_length (p := badB e) (xs := run r A)
      omega
    obtain ⟨g, hg⟩ : ∃ g, (run r A)[(run r A).findIdx (goodB e)] = g := ⟨_, rfl⟩
    have hgood : goodB e g = true := by rw [← hg]; exact List.findIdx_getElem (w := hkl)
    have hgm : g ∈ run r A := by rw [← hg]; exact List.getElem_mem hkl
    have hgr : g ∈ r := (run_perm r A).mem_iff.1 hgm
    have hpos : pos (run r A) g ≤ (run r A).findIdx (goodB e) := by
      refine Nat.le_of_not_lt fun hlt2 => ?_
      have hnf := List.not_of_lt_findIdx (p := (· == g)) hlt2
      simp [hg] at hnf
    have hnb : badB e g = false := by
      simp only [goodB, Bool.and_eq_true, Bool.not_eq_true'] at hgood
      exact hgood.2
    rw [hpr] at i2
    have hstep := step_forward (e := e) hgm hnb
    have hB : ∀ f ∈ B, badB f g = false := by
      refine Classical.byContradiction fun hno => ?_
      obtain ⟨B1, f, B2, hB, hb1, hbf⟩ := first_bad hno
      have hs : es = (A ++ e :: B1) ++ f :: B2 := by rw [hes, hB]; simp
      have h3 := i2 _ f B2 hs
      have h4 : run r (A ++ e :: B1) = run (stepL (run r A) e) B1 := by rw [run_append]; rfl
      have hgm2 : g ∈ stepL (run r A) e := stepL_mem.2 hgm
      have h5 := pos_run hgm2 B1 hb1
      have h6 := prio_le_bad (N := r.length) (by rw [h4]; exact (run_perm _ B1).mem_iff.2 hgm2) hbf (run_length r (A ++ e :: B1))
      rw [h4] at h3 h6
      omega
    have hret : pos r g ≤ (run r A).findIdx (goodB e) := by
      have h4 : r = run (stepL (run r A) e) B := by
        have : run r es = run (stepL (run r A) e) B := by rw [hes, run_append]; rfl
        rw [← this, hfix]
      have h5 := pos_run (stepL_mem.2 hgm : g ∈ stepL (run r A) e) B hB
      rw [← h4] at h5
      omega
    have hA : ∀ f ∈ A, badB f g = false := by
      refine Classical.byContradiction fun hno => ?_
      obtain ⟨A1, f, A2, hA, hb1, hbf⟩ := first_bad hno
      have hs : es = A1 ++ f :: (A2 ++ e :: B) := by rw [hes, hA]; simp
      have h3 := i2 _ f _ hs
      have h5 := pos_run hgr A1 hb1
      have h6 := prio_le_bad (N := r.length) ((run_perm _ A1).mem_iff.2 hgr) hbf (run_length r A1)
      omega
    have hg1 := hall g hgr
    have hgmem : g ∈ e.good := by
      simp only [goodB, Bool.and_eq_true] at hgood
      exact List.contains_iff_mem.1 hgood.1
    rw [winsL, Int.toNat_natCast]
    have hz : (upTo r.length).any (fun z => es.any (fun e => e.good.contains z) && !es.any (fun e => e.bad.contains z)) = true := by
      refine List.any_eq_true.2 ⟨g, mem_upTo.2 (by simp [inN]; exact hg1), ?_⟩
      rw [Bool.and_eq_true]
      refine ⟨List.any_eq_true.2 ⟨e, by rw [hes]; simp, List.contains_iff_mem.2 hgmem⟩, ?_⟩
      rw [Bool.not_eq_true', List.any_eq_false]
      intro f hf
      have : badB f g = false := by
        rw [hes] at hf
        rcases List.mem_append.1 hf with hf | hf
        · exact hA f hf
        · rcases List.mem_cons.1 hf with rfl | hf
          · exact hnb
          · exact hB f hf
      unfold badB at this
      rw [this]; simp
    rw [hz, decide_eq_true (by omega), decide_eq_true (by omega)]; rfl
  · intro hw
    rw [winsL, Int.toNat_natCast] at hw
    simp only [Bool.and_eq_true, decide_eq_true_eq] at hw
    obtain ⟨g, hg, hgg⟩ := List.any_eq_true.1 hw.2
    rw [Bool.and_eq_true, Bool.not_eq_true'] at hgg
    obtain ⟨e0, he0, hgood0⟩ := List.any_eq_true.1 hgg.1
    have hnb : ∀ f ∈ es, badB f g = false := fun f hf => by
      have := List.any_eq_false.1 hgg.2 f hf
      unfold badB; simpa using this
    have hgr : g ∈ r := by
      have hgn := mem_upTo.1 hg
      simp only [inN, Bool.and_eq_true, decide_eq_true_eq] at hgn
      exact mem_of_full hnd hin hgn
    -- its place stays
    have hconst : ∀ A B, es = A ++ B → pos (run r A) g = pos r g := by
      intro A B hAB
      have h1 := pos_run hgr A fun f hf => hnb f (by rw [hAB]; simp [hf])
      have h2 := pos_run ((run_perm r A).mem_iff.2 hgr) B fun f hf => hnb f (by rw [hAB]; simp [hf])
      rw [← run_append, ← hAB, hfix] at h2
      omega
    have hle : (roundR r es).2 ≤ ((2 * pos r g + 2 : Nat) : Int) := by
      obtain ⟨C, D, hCD⟩ := List.append_of_mem he0
      have h3 := i2 C e0 D hCD
      have hgd : goodB e0 g = true := by
        have := hnb e0 he0
        unfold badB at this
        simp only [goodB, hgood0, this]; rfl
      have h4 := prio_le_good (N := r.length) ((run_perm r C).mem_iff.2 hgr) hgd (run_length r C)
      rw [hconst C _ hCD] at h4
      omega
    rw [hp] at hle ⊢
    have hkl := pos_lt.2 hgr
    unfold prioT at hle ⊢
    split
    · omega
    · rename_i hn1
      rw [if_neg hn1] at hle
      split
      · rename_i hn2
        rw [if_pos hn2] at hle
        exfalso
        -- a bad name before g
        have hbl : (run r A).findIdx (badB e) < (run r A).length := by
          have := List.findIdx_le_length (p := goodB e) (xs := run r A)
          omega
        obtain ⟨b, hb⟩ : ∃ b, (run r A)[(run r A).findIdx (badB e)] = b := ⟨_, rfl⟩
        have hbb : badB e b = true := by rw [← hb]; exact List.findIdx_getElem (w := hbl)
        have hbm : b ∈ run r A := by rw [← hb]; exact List.getElem_mem hbl
        have hpb : pos (run r A) b ≤ (run r A).findIdx (badB e) := by
          refine Nat.le_of_not_lt fun hlt2 => ?_
          have hnf := List.not_of_lt_findIdx (p := (· == b)) hlt2
          simp [hb] at hnf
        have hgA : g ∈ run r A := (run_perm r A).mem_iff.2 hgr
        have hgb : badB e g = false := hnb e (by rw [hes]; simp)
        have hc0 := hconst A (e :: B) hes
        have hc1 := hconst (A ++ [e]) B (by rw [hes]; simp)
        rw [run_snoc] at hc1
        have hne : pos (run r A) b ≠ pos (run r A) g := fun h => by
          have := pos_inj hbm h
          rw [this, hgb] at hbb; cases hbb
        have := step_past (e := e) hgA hbm hgb hbb (by omega)
        omega
      · rename_i hn2
        rw [if_neg hn2] at hle
        exfalso; omega
end Go.Proofs.Yticliabmhgofjaa
