/- What the journal's functions compute, in plain Lean: records written one after the other are read back. Conditions: none. -/
import Derived.Test.YtfbahfibgmdlnaaJ14
namespace Go.Proofs.Ytfbahfibgmdlnaa
set_option linter.unusedVariables false

/-- a record that can be written -/
def okR (r : List UInt8) : Prop := 1 ≤ r.length ∧ r.length ≤ 4000
def cat (rs : List (List UInt8)) : List UInt8 := (rs.map frm).flatten
theorem cat_nil : cat [] = [] := rfl
theorem cat_cons (r : List UInt8) (rs : List (List UInt8)) : cat (r :: rs) = frm r ++ cat rs := rfl
theorem cat_append (a b : List (List UInt8)) : cat (a ++ b) = cat a ++ cat b := by simp [cat]
theorem cat_one (r : List UInt8) : cat [r] = frm r := by simp [cat]

theorem frm_eq (r : List UInt8) : frm r = b8 (r.length / 256) :: b8 (r.length % 256) :: (chk (two r.length ++ r) ++ r) := by simp [frm, two]

theorem first_body (r X t : List UInt8) (h : okR r) (hX : X.length = 4 + r.length) : first (b8 (r.length / 256) :: b8 (r.length % 256) :: (X ++ t)) = if frm (X.drop 4) = b8 (r.length / 256) :: b8 (r.length % 256) :: X then some (X.drop 4) else none := by
  obtain ⟨h1, h2⟩ := h
  have hu : un (b8 (r.length / 256)) (b8 (r.length % 256)) = r.length := un_two (by omega)
  have hl : (b8 (r.length / 256) :: b8 (r.length % 256) :: (X ++ t)).length = 6 + r.length + t.length := by simp [hX]; omega
  have hd : ((b8 (r.length / 256) :: b8 (r.length % 256) :: (X ++ t)).drop 6).take r.length = X.drop 4 := by
    simp only [List.drop_succ_cons]
    rw [List.drop_append_of_le_length (by omega), List.take_append_of_le_length (by simp; omega), List.take_of_length_le (by simp; omega)]
  have ht : (b8 (r.length / 256) :: b8 (r.length % 256) :: (X ++ t)).take (6 + r.length) = b8 (r.length / 256) :: b8 (r.length % 256) :: X := by
    rw [show 6 + r.length = (4 + r.length) + 1 + 1 by omega, List.take_succ_cons, List.take_succ_cons, List.take_append_of_le_length (by omega), List.take_of_length_le (by omega)]
  unfold first
  rw [if_neg (by omega)]
  simp only [List.getD_cons_zero, List.getD_cons_succ, hu, hd, ht]
  rw [if_neg (by omega)]

theorem first_frm (r t : List UInt8) (h : okR r) : first (frm r ++ t) = some r := by
  have hl : (chk (two r.length ++ r) ++ r).length = 4 + r.length := by rw [List.length_append, chk_length]
  have hd : (chk (two r.length ++ r) ++ r).drop 4 = r := by
    rw [List.drop_append_of_le_length (by rw [chk_length]; omega), List.drop_of_length_le (by rw [chk_length]; omega)]; rfl
  have := first_body r (chk (two r.length ++ r) ++ r) t h hl
  rw [hd, ← frm_eq, if_pos rfl] at this
  rw [← this, frm_eq]; rfl

theorem first_take {b r : List UInt8} (h : first b = some r) : frm r = b.take (6 + r.length) := by
  unfold first at h
  split at h
  · cases h
  · simp only at h
    split at h
    · cases h
    · rename_i h1 h2
      split at h
      · rename_i h3
        cases h
        rw [h3]
        congr 2
        simp only [List.length_take, List.length_drop]
        omega
      · cases h

/-- reading: what is read is the beginning, written once more -/
theorem recs_cat (k : Nat) : ∀ l : List UInt8, l.take (recs k l).2 = cat (recs k l).1 ∧ (recs k l).1.length ≤ k ∧ (∀ r ∈ (recs k l).1, okR r) ∧ (recs k l).2 = (cat (recs k l).1).length := by
  induction k with
  | zero => intro l; simp [recs, cat]
  | succ k ih =>
    intro l
    cases hf : first l with
    | none => simp [recs_none hf, cat]
    | some r =>
      rw [recs_some hf]
      obtain ⟨h1, h2, h3, h4⟩ := ih (l.drop (6 + r.length))
      have ht := first_take hf
      have hl := first_length hf
      refine ⟨?_, by simp; omega, ?_, ?_⟩
      · simp only [cat_cons, ht]
        rw [List.take_add, h1]
      · intro x hx
        rcases List.mem_cons.1 hx with rfl | hx
        · exact ⟨hl.1, hl.2.1⟩
        · exact h3 x hx
      · simp only [cat_cons, List.length_append, frm_length, h4]

/-- what is written is read back -/
theorem recs_of_cat : ∀ (rs : List (List UInt8)) (k : Nat) (t : List UInt8), (∀ r ∈ rs, okR r) → rs.length ≤ k →
    recs k (cat rs ++ t) = (rs ++ (recs (k - rs.length) t).1, (cat rs).length + (recs (k - rs.length) t).2)
  | [], k, t, _, _ => by simp [cat]
  | r :: rs, 0, t, _, h => by simp at h
  | r :: rs, k + 1, t, h, hk => by
    have h1 := h r (by simp)
    have h2 := recs_of_cat rs k t (fun x hx => h x (by simp [hx])) (by simpa using hk)
    have hf : first (cat (r :: rs) ++ t) = some r := by rw [cat_cons, List.append_assoc]; exact first_frm r _ h1
    have hd : (cat (r :: rs) ++ t).drop (6 + r.length) = cat rs ++ t := by
      rw [cat_cons, List.append_assoc, ← frm_length, List.drop_left']
      rfl
    rw [recs_some hf, hd, h2]
    simp [cat_cons, frm_length]
    omega
theorem recs_nil (k : Nat) : recs k [] = ([], 0) := recs_none (by simp [first])
theorem recs_cat_self {rs : List (List UInt8)} {k : Nat} (h : ∀ r ∈ rs, okR r) (hk : rs.length ≤ k) : recs k (cat rs) = (rs, (cat rs).length) := by
  have := recs_of_cat rs k [] h hk
  rw [recs_nil] at this
  simpa using this
theorem recs_take (k : Nat) (l : List UInt8) : recs k (l.take (recs k l).2) = recs k l := by
  obtain ⟨h1, h2, h3, h4⟩ := recs_cat k l
  rw [h1, recs_cat_self h3 h2, ← h4]

/-! ### Encode and Decode -/
theorem decode_encode (e : Ent) (h : writable e = true) : decode (encode e) = some e := by
  obtain ⟨h1, h2, h3, h4, h5⟩ := (writable_iff e).1 h
  have e1 : (e.kind.toNat : Int) = e.kind := Int.toNat_of_nonneg (by omega)
  have e2 : (e.n.toNat : Int) = e.n := Int.toNat_of_nonneg h3
  have hk : ((b8 e.kind.toNat).toNat : Int) = e.kind := by rw [b8_toNat (by omega), e1]
  have hn : ((un (b8 (e.n.toNat / 256)) (b8 (e.n.toNat % 256)) : Nat) : Int) = e.n := by rw [un_two (by omega), e2]
  have hent : (⟨((b8 e.kind.toNat).toNat : Int), ((un (b8 (e.n.toNat / 256)) (b8 (e.n.toNat % 256)) : Nat) : Int), e.text⟩ : Ent) = e := by rw [hk, hn]
  unfold encode
  rw [if_pos h]
  simp only [two, List.cons_append, List.nil_append, decode]
  rw [hent, if_pos h]
theorem decode_nil : decode [] = none := rfl
theorem encode_not {e : Ent} (h : writable e = false) : encode e = [] := by unfold encode; rw [h]; rfl
theorem un_split (a b : UInt8) : b8 (un a b / 256) = a ∧ b8 (un a b % 256) = b := by
  have := a.toNat_lt; have := b.toNat_lt
  constructor <;> apply UInt8.toNat_inj.1 <;> rw [b8_toNat (by unfold un; omega)] <;> unfold un <;> omega
theorem encode_decode {l : List UInt8} {e : Ent} (h : decode l = some e) : encode e = l := by
  unfold decode at h
  split at h
  · rename_i a b c t
    simp only at h
    split at h
    · rename_i hw
      cases h
      unfold encode
      rw [if_pos hw]
      have e1 : b8 a.toNat = a := UInt8.toNat_inj.1 (b8_toNat (by have := a.toNat_lt; omega))
      obtain ⟨e2, e3⟩ := un_split b c
      simp [two, e1, e2, e3]
    · cases h
  · cases h

/-! ### whole -/
def okB (r : List UInt8) : Bool := decide (1 ≤ r.length) && decide (r.length ≤ 4000)
theorem okB_iff (r : List UInt8) : okB r = true ↔ okR r := by simp [okB, okR]
theorem app_ok {rs : List (List UInt8)} {r : List UInt8} (h : ∀ x ∈ rs, okR x) (hk : rs.length < 500) (hr : okR r) : app (cat rs) r = (cat (rs ++ [r]), 0) := by
  obtain ⟨h1, h2⟩ := hr
  unfold app
  rw [recs_cat_self h (by omega), if_neg (by omega), if_neg (by simp; omega), cat_append, cat_one]
  simp
theorem wstep_cat {rs : List (List UInt8)} {r : List UInt8} (h : ∀ x ∈ rs, okR x) (hk : rs.length < 500) : wstep (cat rs) r = cat (rs ++ if okB r then [r] else []) := by
  unfold wstep
  by_cases hr : okR r
  · rw [app_ok h hk hr, if_pos rfl, if_pos ((okB_iff r).2 hr)]
  · have hb : okB r = false := by
      cases hb : okB r with
      | true => exact absurd ((okB_iff r).1 hb) hr
      | false => rfl
    have hr' : r.length < 1 ∨ 4000 < r.length := by unfold okR at hr; omega
    have ha : app (cat rs) r = ([], 1) := by unfold app; rw [if_pos hr']
    rw [ha, if_neg (by simp), hb]
    simp
theorem whole_fold : ∀ (ls rs : List (List UInt8)), (∀ x ∈ rs, okR x) → rs.length + ls.length < 500 → ls.foldl wstep (cat rs) = cat (rs ++ ls.filter okB)
  | [], rs, _, _ => by simp
  | r :: ls, rs, h, hk => by
    simp only [List.length_cons] at hk
    rw [List.foldl_cons, wstep_cat h (by omega), whole_fold ls]
    · congr 1
      rw [List.filter_cons]
      split <;> simp [*]
    · intro x hx
      rcases List.mem_append.1 hx with hx | hx
      · exact h x hx
      · split at hx
        · rename_i hb; simp at hx; subst hx; exact (okB_iff _).1 hb
        · simp at hx
    · rw [List.length_append]
      split <;> simp <;> omega
/-- the journal of these payloads: the records that can be written -/
theorem whole_cat {ls : List (List UInt8)} (h : ls.length ≤ 15) : wholeL ls = cat (ls.filter okB) := by
  have := whole_fold ls [] (by simp) (by simp; omega)
  rw [cat_nil] at this
  rw [wholeL, this]
  rfl
theorem filter_ok (ls : List (List UInt8)) : ∀ r ∈ ls.filter okB, okR r := fun r hr => (okB_iff r).1 (List.mem_filter.1 hr).2
theorem cat_short : ∀ (rs : List (List UInt8)), (∀ r ∈ rs, r.length ≤ 200) → (cat rs).length ≤ 206 * rs.length
  | [], _ => by simp [cat]
  | r :: rs, h => by
    have := cat_short rs fun x hx => h x (by simp [hx])
    have := h r (by simp)
    rw [cat_cons, List.length_append, frm_length, List.length_cons]
    omega

/-! ### Torn journals -/
theorem first_short {r t : List UInt8} {c : Nat} (h : okR r) (hc : c < 6 + r.length) : first ((frm r ++ t).take c) = none := by
  obtain ⟨h1, h2⟩ := h
  have hl : ((frm r ++ t).take c).length ≤ c := by simp; omega
  refine first_none ?_
  by_cases h6 : ((frm r ++ t).take c).length < 6
  · exact .inl h6
  · refine .inr (.inr (.inr ?_))
    have hc2 : 2 ≤ c := by omega
    obtain ⟨c', rfl⟩ : ∃ c', c = c' + 1 + 1 := ⟨c - 2, by omega⟩
    have e : (frm r ++ t).take (c' + 1 + 1) = b8 (r.length / 256) :: b8 (r.length % 256) :: ((chk (two r.length ++ r) ++ r) ++ t).take c' := by
      rw [frm_eq]; simp
    rw [e] at hl ⊢
    simp only [List.getD_cons_zero, List.getD_cons_succ]
    rw [un_two (by omega)]
    omega
theorem recs_torn : ∀ (rs : List (List UInt8)) (k c : Nat), (∀ r ∈ rs, okR r) → rs.length ≤ k → c ≤ (cat rs).length →
    ∃ q, q ≤ rs.length ∧ recs k ((cat rs).take c) = (rs.take q, (cat (rs.take q)).length) ∧ (cat (rs.take q)).length ≤ c ∧ (q = rs.length ∨ c < (cat (rs.take (q + 1))).length)
  | [], k, c, _, _, hc => ⟨0, by simp, by simp [cat, recs_nil], by simp [cat], .inl rfl⟩
  | r :: rs, 0, c, _, hk, _ => by simp at hk
  | r :: rs, k + 1, c, h, hk, hc => by
    by_cases hr : c < 6 + r.length
    · refine ⟨0, by simp, ?_, by simp [cat], .inr ?_⟩
      · rw [cat_cons, recs_none (first_short (h r (by simp)) hr)]
        simp [cat]
      · simp [cat_one, frm_length]; exact hr
    · have hlen := frm_length r
      rw [cat_cons, List.length_append] at hc
      obtain ⟨q, h1, h2, h3, h4⟩ := recs_torn rs k (c - (6 + r.length)) (fun x hx => h x (by simp [hx])) (by simpa using hk) (by omega)
      have e : (cat (r :: rs)).take c = frm r ++ (cat rs).take (c - (6 + r.length)) := by
        rw [cat_cons, List.take_append, hlen, List.take_of_length_le (by omega)]
      have hf : first ((cat (r :: rs)).take c) = some r := by rw [e]; exact first_frm r _ (h r (by simp))
      have hd : ((cat (r :: rs)).take c).drop (6 + r.length) = (cat rs).take (c - (6 + r.length)) := by
        rw [e, ← hlen, List.drop_left']; rfl
      refine ⟨q + 1, by simp; omega, ?_, ?_, ?_⟩
      · rw [recs_some hf, hd, h2, List.take_succ_cons, cat_cons, List.length_append, hlen]
      · rw [List.take_succ_cons, cat_cons, List.length_append, hlen]; omega
      · rcases h4 with h4 | h4
        · left; simp [h4]
        · right; rw [List.take_succ_cons, cat_cons, List.length_append, hlen]; omega

/-! ### Damage -/
theorem sums_one (l : List UInt8) : ∀ s : Nat × Nat, s.1 < 65521 → (sums s l).1 = (s.1 + (l.map (·.toNat)).sum) % 65521 := by
  induction l with
  | nil => intro s h; simp [sums, Nat.mod_eq_of_lt h]
  | cons c l ih =>
    intro s h
    have : sums s (c :: l) = sums (stp s c) l := rfl
    rw [this, ih _ (stp_lt s c).1]
    simp only [stp, List.map_cons, List.sum_cons]
    omega
theorem two_inj {a b : Nat} (ha : a ≤ 65535) (hb : b ≤ 65535) (h : two a = two b) : a = b := by
  simp only [two, List.cons.injEq, and_true] at h
  rw [← un_two ha, ← un_two hb, h.1, h.2]
theorem chk_one {l m : List UInt8} (h : chk l = chk m) : (sums (1, 0) l).1 = (sums (1, 0) m).1 := by
  have h2 : two (sums (1, 0) l).1 = two (sums (1, 0) m).1 := by
    have := congrArg (List.drop 2) h
    simpa [chk, two] using this
  have hl := sums_lt l (1, 0) (by simp) (by simp)
  have hm := sums_lt m (1, 0) (by simp) (by simp)
  exact two_inj (by omega) (by omega) h2
theorem set_split {α : Type} {l : List α} {p : Nat} (hp : p < l.length) (c : α) : l = l.take p ++ l[p] :: l.drop (p + 1) ∧ l.set p c = l.take p ++ c :: l.drop (p + 1) := by
  refine ⟨?_, ?_⟩
  · rw [List.getElem_cons_drop, List.take_append_drop]
  · rw [List.set_eq_take_append_cons_drop, if_pos hp]
theorem chk_set {l r : List UInt8} {p : Nat} (hp : p < r.length) {c : UInt8} (hc : c ≠ r[p]) : chk (l ++ r.set p c) ≠ chk (l ++ r) := by
  intro h
  have h1 := chk_one h
  rw [sums_one _ _ (by simp), sums_one _ _ (by simp)] at h1
  obtain ⟨e1, e2⟩ := set_split hp c
  have hs : ((l ++ r.set p c).map (·.toNat)).sum + r[p].toNat = ((l ++ r).map (·.toNat)).sum + c.toNat := by
    rw [e2]
    conv => rhs; rw [e1]
    simp only [List.map_append, List.sum_append, List.map_cons, List.sum_cons]
    omega
  have hc' : c.toNat ≠ r[p].toNat := fun e => hc (UInt8.toNat_inj.1 e)
  have := c.toNat_lt
  have := r[p].toNat_lt
  simp only [] at h1
  omega
theorem first_damaged {r t : List UInt8} (h : okR r) {p : Nat} (hp : p < 4 + r.length) {c : UInt8} (hc : (frm r)[2 + p]? ≠ some c) : first (((frm r).set (2 + p) c) ++ t) = none := by
  have hlen : (chk (two r.length ++ r) ++ r).length = 4 + r.length := by rw [List.length_append, chk_length]
  have e : (frm r).set (2 + p) c ++ t = b8 (r.length / 256) :: b8 (r.length % 256) :: ((chk (two r.length ++ r) ++ r).set p c ++ t) := by
    rw [frm_eq, show 2 + p = p + 1 + 1 by omega]; rfl
  have hc' : (chk (two r.length ++ r) ++ r)[p]? ≠ some c := by
    rw [frm_eq, show 2 + p = p + 1 + 1 by omega] at hc
    simpa using hc
  rw [e, first_body r _ t h (by rw [List.length_set, hlen]), if_neg]
  intro hh
  by_cases h4 : p < 4
  · have e1 : (chk (two r.length ++ r) ++ r).set p c = (chk (two r.length ++ r)).set p c ++ r := by rw [List.set_append_left _ _ (by rw [chk_length]; omega)]
    rw [e1, List.drop_append_of_le_length (by rw [List.length_set, chk_length]; omega), List.drop_of_length_le (by rw [List.length_set, chk_length]; omega), List.nil_append, frm_eq] at hh
    simp only [List.cons.injEq, true_and] at hh
    have h5 := List.append_cancel_right hh
    apply hc'
    rw [List.getElem?_append_left (by rw [chk_length]; omega), h5, List.getElem?_set_self (by rw [chk_length]; omega)]
  · obtain ⟨q, rfl⟩ : ∃ q, p = 4 + q := ⟨p - 4, by omega⟩
    have hq : q < r.length := by omega
    have e1 : (chk (two r.length ++ r) ++ r).set (4 + q) c = chk (two r.length ++ r) ++ r.set q c := by
      rw [List.set_append_right _ _ (by rw [chk_length]; omega), chk_length, show 4 + q - 4 = q by omega]
    rw [e1, List.drop_append_of_le_length (by rw [chk_length]; omega), List.drop_of_length_le (by rw [chk_length]; omega), List.nil_append, frm_eq, List.length_set] at hh
    simp only [List.cons.injEq, true_and] at hh
    have h5 := List.append_cancel_right hh
    refine chk_set hq ?_ h5
    intro he
    apply hc'
    rw [List.getElem?_append_right (by rw [chk_length]; omega), chk_length, show 4 + q - 4 = q by omega, List.getElem?_eq_getElem hq, he]

end Go.Proofs.Ytfbahfibgmdlnaa
