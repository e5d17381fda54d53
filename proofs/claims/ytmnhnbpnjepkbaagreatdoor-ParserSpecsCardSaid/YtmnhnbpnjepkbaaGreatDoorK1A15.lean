/- The reference lexer: all tokens. Rules for maps from integers to integers: made, looked up, stored into, ranged over. Conditions: none. -/
import Derived.Test.YtmnhnbpnjepkbaaGreatDoorK1A14
import Derived.Maps.RangeRun

namespace Go.Proofs.YtmnhnbpnjepkbaaGreatDoor
open Go.RowKit
set_option linter.unusedVariables false

/-! ### The plain law: both lexers answer alike -/
def kindOk (c : UInt8) : Bool := match kindB c with
  | some 0 => isBlank c
  | some 1 => decide (c.toNat = 37)
  | some 2 => isLet c
  | some 3 => !isLet c && isDig c
  | some _ => !isLet c && !isDig c
  | none => !isLet c && !isDig c && symsL.all (fun y => decide (y.head? ≠ some c))
def gapOk (c : UInt8) : Bool := (!isBlank c || decide (kindB c = some 0)) && (!decide (c.toNat = 37) || decide (kindB c = some 1))
theorem kinds_all : ∀ n : Fin 256, (kindOk (UInt8.ofNat n.val) && gapOk (UInt8.ofNat n.val)) = true := by decide +kernel
theorem kind_all (c : UInt8) : kindOk c = true ∧ gapOk c = true := by
  have h := kinds_all ⟨c.toNat, c.toNat_lt⟩
  rw [Bool.and_eq_true] at h
  have e : UInt8.ofNat c.toNat = c := by simp
  simp only [e] at h
  exact h
theorem kind_blank {c : UInt8} (h : isBlank c = true) : kindB c = some 0 := by
  have := (kind_all c).2
  simp only [gapOk, h, Bool.not_true, Bool.false_or, Bool.and_eq_true, decide_eq_true_eq] at this
  exact this.1
theorem kind_37 {c : UInt8} (h : c.toNat = 37) : kindB c = some 1 := by
  have := (kind_all c).2
  simp only [gapOk, h, decide_true, Bool.not_true, Bool.false_or, Bool.and_eq_true, decide_eq_true_eq] at this
  exact this.2
theorem drop_split (t : List UInt8) {a : Nat} (h : a ≤ t.length) : t = t.take a ++ t.drop a ∧ (t.take a).length = a := ⟨(List.take_append_drop a t).symm, by simp; omega⟩
theorem whileB_drop (q : UInt8 → Bool) (t : List UInt8) {a : Nat} (h : a ≤ t.length) (j : Nat) : whileB q t (a + j) = a + whileB q (t.drop a) j := by
  obtain ⟨h1, h2⟩ := drop_split t h
  have := whileB_sh (q := q) (t.take a) (t.drop a) j
  rw [← h1, h2] at this; exact this
theorem step_next (t : List UInt8) (a : Nat) (ts : List Tok) (ha : a < t.length) (h0 : kindB (t.getD a 0) ≠ some 0) (h1 : kindB (t.getD a 0) ≠ some 1) :
    stepM t a ts = if (nextM (t.drop a)).2.2 = true then addM t a ts (nextM (t.drop a)).1 (a + (nextM (t.drop a)).2.1) else .error (40, a) := by
  have hg : (t.drop a).getD 0 0 = t.getD a 0 := by simp [List.getD_eq_getElem?_getD]
  have hk := (kind_all (t.getD a 0)).1
  unfold kindOk at hk
  unfold stepM nextM
  rw [hg]
  split at hk
  · rename_i e; exact absurd e h0
  · rename_i e; exact absurd e h1
  · rename_i e
    rw [e, if_pos hk]
    simp only [nameM]
    rw [whileB_drop inName t (by omega) 1]
    by_cases h20 : whileB inName (t.drop a) 1 ≤ 20
    · rw [if_neg (by omega), if_pos (by simpa using h20)]
    · rw [if_pos (by omega), if_neg (by simpa using h20)]
  · rename_i e
    rw [e]
    rw [Bool.and_eq_true, Bool.not_eq_true'] at hk
    rw [hk.1, hk.2]
    simp only [Bool.false_eq_true, if_false, if_true, numM]
    obtain ⟨g1, g2⟩ := drop_split t (Nat.le_of_lt ha)
    have hnb : numBad t a = numBad (t.drop a) 0 := by
      have := numBad_sh (t.take a) (t.drop a) 0
      rw [← g1, g2] at this; exact this
    have hw := whileB_drop isDig t (Nat.le_of_lt ha) 0
    rw [Nat.add_zero] at hw
    rw [hnb, hw]
    cases numBad (t.drop a) 0 <;> rfl
  · rename_i k e0 e1 e2 e3 hkk
    simp only [Bool.and_eq_true, Bool.not_eq_true'] at hk
    rw [hk.1, hk.2]
    simp only [Bool.false_eq_true, if_false]
    have e0' : k ≠ 0 := e0
    have e1' : k ≠ 1 := e1
    have e2' : k ≠ 2 := e2
    have e3' : k ≠ 3 := e3
    obtain ⟨j, rfl⟩ : ∃ j, k = j + 4 := ⟨k - 4, by omega⟩
    rw [hkk]
    show symM t a ts = _
    unfold symM symW
    cases hf : symsL.find? (hasPre (t.drop a)) with
    | none => rfl
    | some y =>
      have hne : ∀ y ∈ symsL, y ≠ [] := by decide
      have := hne y (List.mem_of_find?_eq_some hf)
      simp [this]
  · rename_i e
    simp only [Bool.and_eq_true, Bool.not_eq_true'] at hk
    rw [e, hk.1.1, hk.1.2]
    simp only [Bool.false_eq_true, if_false]
    have hf : symsL.find? (hasPre (t.drop a)) = none := by
      rw [List.find?_eq_none]
      intro y hy hp
      have h1 := (hasPre_iff _ _).1 hp
      have h2 := List.all_eq_true.1 hk.2 y hy
      have hne : ∀ y ∈ symsL, y ≠ [] := by decide
      match y, hne y hy, h1, h2 with
      | d :: y, _, h1, h2 =>
        obtain ⟨r, hr⟩ := h1
        have : (t.drop a).head? = some d := by rw [← hr]; rfl
        have hc : t[a]? = some t[a] := List.getElem?_eq_getElem ha
        rw [List.head?_drop, hc] at this
        rw [getD_of hc] at h2
        simp at h2
        exact h2 (Option.some.inj this).symm
    unfold symW
    rw [hf]
    rfl

theorem gapW_ge (t : List UInt8) : ∀ (m a : Nat), t.length - a ≤ m → a ≤ t.length → a ≤ gapW t a ∧ gapW t a ≤ t.length ∧ gapW t (gapW t a) = gapW t a := by
  intro m
  induction m with
  | zero =>
    intro a hm ha
    obtain rfl : a = t.length := by omega
    rw [gapW_end]
    exact ⟨Nat.le_refl _, Nat.le_refl _, gapW_end⟩
  | succ m ih =>
    intro a hm ha
    by_cases h : a < t.length
    · have hc : t[a]? = some t[a] := List.getElem?_eq_getElem h
      rw [gapW_step hc]
      split
      · rename_i h37
        have h1 := whileB_le (p := inComm) (t := t) (a := a) (by omega)
        have h2 := whileB_step (p := inComm) hc (by simp [inComm, h37])
        have h3 := whileB_ge inComm t (a + 1)
        have := ih (whileB inComm t a) (by omega) h1
        exact ⟨by omega, this.2⟩
      · split
        · have := ih (a + 1) (by omega) (by omega)
          exact ⟨by omega, this.2⟩
        · rename_i h1 h2
          refine ⟨Nat.le_refl _, by omega, ?_⟩
          rw [gapW_step hc, if_neg h1, if_neg h2]
    · obtain rfl : a = t.length := by omega
      rw [gapW_end]
      exact ⟨Nat.le_refl _, Nat.le_refl _, gapW_end⟩
theorem scan_gap (t : List UInt8) (ts : List Tok) : ∀ (m a : Nat), t.length - a ≤ m → a ≤ t.length → scanW t a ts = scanW t (gapW t a) ts := by
  intro m
  induction m with
  | zero =>
    intro a hm ha
    obtain rfl : a = t.length := by omega
    rw [gapW_end]
  | succ m ih =>
    intro a hm ha
    by_cases h : a < t.length
    · have hc : t[a]? = some t[a] := List.getElem?_eq_getElem h
      have hg : t.getD a 0 = t[a] := getD_of hc
      rw [gapW_step hc]
      split
      · rename_i h37
        have h1 := whileB_le (p := inComm) (t := t) (a := a) (by omega)
        have h2 := whileB_step (p := inComm) hc (by simp [inComm, h37])
        have h3 := whileB_ge inComm t (a + 1)
        rw [scanW_step h]
        have : stepM t a ts = .ok (whileB inComm t a, ts) := by unfold stepM; rw [hg, kind_37 h37]; rfl
        rw [this]
        exact ih _ (by omega) h1
      · split
        · rename_i hb
          rw [scanW_step h]
          have : stepM t a ts = .ok (a + 1, ts) := by unfold stepM; rw [hg, kind_blank hb]; rfl
          rw [this]
          exact ih _ (by omega) (by omega)
        · rfl
    · obtain rfl : a = t.length := by omega
      rw [gapW_end]
/-- where no gap is left -/
theorem gap_stop {t : List UInt8} {i : Nat} (hi : i < t.length) (h : gapW t i = i) : kindB (t.getD i 0) ≠ some 0 ∧ kindB (t.getD i 0) ≠ some 1 := by
  have hc : t[i]? = some t[i] := List.getElem?_eq_getElem hi
  have hg : t.getD i 0 = t[i] := getD_of hc
  rw [gapW_step hc] at h
  rw [hg]
  refine ⟨fun e => ?_, fun e => ?_⟩
  · obtain ⟨h1, h2⟩ := kindB_0 e
    rw [if_neg h1, if_pos h2] at h
    have := (gapW_ge t _ (i + 1) (Nat.le_refl _) (by omega)).1
    omega
  · have h37 := kindB_1 e
    rw [if_pos h37] at h
    have h1 := whileB_le (p := inComm) (t := t) (a := i) (by omega)
    have h2 := whileB_step (p := inComm) hc (by simp [inComm, h37])
    have h3 := whileB_ge inComm t (i + 1)
    have := (gapW_ge t _ (whileB inComm t i) (Nat.le_refl _) h1).1
    omega
theorem gapW_drop (t : List UInt8) {a : Nat} (h : a ≤ t.length) : gapW t a = a + gapW (t.drop a) 0 := by
  obtain ⟨h1, h2⟩ := drop_split t h
  have := gapW_sh (t.take a) (t.drop a) 0 (by omega)
  rw [← h1, h2, Nat.add_zero] at this; exact this
theorem nextM_pos {u : List UInt8} (h : 1 ≤ u.length) (hr : (nextM u).2.2 = true) : 1 ≤ (nextM u).2.1 ∧ (nextM u).2.1 ≤ u.length := by
  unfold nextM at hr ⊢
  split
  · have := whileB_ge inName u 1
    have := whileB_le (p := inName) (t := u) (a := 1) h
    simp only; omega
  · split
    · rename_i hd
      have hc : u[0]? = some u[0] := List.getElem?_eq_getElem (by omega)
      rw [getD_of hc] at hd
      have := whileB_step (p := isDig) hc hd
      have := whileB_ge isDig u (0 + 1)
      have := whileB_le (p := isDig) (t := u) (a := 0) (by omega)
      simp only; omega
    · rename_i h1 h2
      rw [if_neg h1, if_neg h2] at hr
      simp only [Bool.not_eq_true', decide_eq_false_iff_not] at hr
      simp only
      have hl : (symW u).length ≤ u.length := by
        unfold symW
        cases hf : symsL.find? (hasPre u) with
        | none => simp
        | some y => exact ((hasPre_iff _ _).1 (List.find?_some hf)).length_le
      have : (symW u).length ≠ 0 := fun e => hr (List.eq_nil_of_length_eq_zero e)
      omega

theorem madeTok : (madeCells (Value.agg #[.int .i64 0, strV [], .int .i64 0]).cells (1 * 3)).toList = [.int .i64 0, strV [], .int .i64 0] := by kernel_rfl
theorem reflex_ok (w : World) (t : List UInt8) : Fn Tryz.prog 10 [strV t] w fun v w' => ∃ a c e q ts, v = .tuple #[.slice a ts.length c, .int .i64 e, .int .i64 q] ∧ Ext w w' ∧ Toks w' a c ts ∧
    ((lexM t = .ok ts ∧ e = 0 ∧ q = -1) ∨ ∃ p : Nat, lexM t = .error (e, p) ∧ e ≠ 0 ∧ q = (p : Int) ∧ ts = []) := by
  have hnil : ∀ W : World, Toks W none 0 [] := fun W => ⟨none, 0, rfl, by simp, by omega, fun _ => rfl, .inl rfl⟩
  refine fn_of_wc Tryz.func10 rfl Tryz.ntmps10 (Nat.le_of_ble_eq_true rfl) (by kernel_rfl) ?_
  repeat' first | refine nx ?_ | refine C_cond_t rfl ?_ | refine C_cond_f rfl ?_ | refine Q_block_on rfl ?_
  (refine C_region ?_
   <;> (refine M_assign ?_; (first | refine M_slice rfl ?_ | refine W_move ?_))
   <;> (refine M_assign ?_; (first | refine M_int rfl ?_ | refine W_move ?_))
   <;> (refine M_assign ?_; (first | refine M_int rfl ?_ | refine W_move ?_))
   <;> refine W_nil ?_)
  repeat' first | refine nx ?_ | refine C_cond_t rfl ?_ | refine C_cond_f rfl ?_ | refine Q_block_on rfl ?_
  by_cases hl : 6000 < t.length
  · (refine C_region ?_
     <;> (first | refine M_str rfl ?_ | refine W_move ?_)
     <;> refine W_slen rfl ?_
     <;> (refine W_gtr rfl rfl (fun hc => ?_) (fun hc => ?_) <;> try (exfalso; omega))
     <;> refine W_nil ?_)
    repeat' first | refine nx ?_ | refine C_cond_t rfl ?_ | refine C_cond_f rfl ?_ | refine Q_block_on rfl ?_
    (refine C_region ?_
     <;> (refine M_assign ?_; (first | refine M_slice rfl ?_ | refine W_move ?_))
     <;> (refine M_assign ?_; (first | refine M_int rfl ?_ | refine W_move ?_))
     <;> (refine M_assign ?_; (first | refine M_int rfl ?_ | refine W_move ?_))
     <;> refine W_nil ?_)
    repeat' first | refine nx ?_ | refine C_cond_t rfl ?_ | refine C_cond_f rfl ?_ | refine Q_block_on rfl ?_
    exact fin_ret3 rfl ⟨none, 0, 2, 6000, [], rfl, Ext.refl _, hnil _, .inr ⟨6000, by unfold lexM; rw [if_pos hl], by decide, rfl, rfl⟩⟩
  have hlex := lexM_of (t := t) (by omega)
  (refine C_region ?_
   <;> (first | refine M_str rfl ?_ | refine W_move ?_)
   <;> refine W_slen rfl ?_
   <;> (refine W_gtr rfl rfl (fun hc => ?_) (fun hc => ?_) <;> try (exfalso; omega))
   <;> refine W_nil ?_)
  repeat' first | refine nx ?_ | refine C_cond_t rfl ?_ | refine C_cond_f rfl ?_ | refine Q_block_on rfl ?_
  (refine C_region ?_)
  -- at operation 0: <dst=(some 12) op=(buildSlice 24 0 []) type=24 guard=none>
  refine W_buildSlice (out := []) rfl (by omega) (by kernel_rfl) (fun w1 n1 => ?_)
  have o1 := n1.own (n := 0) (size := 3) rfl (by unfold maxLen; omega) (Nat.le_refl _)
  have z1 := n1.size
  ((refine M_assign ?_; (first | refine M_slice rfl ?_ | refine W_move ?_))
   <;> refine W_nil ?_)
  repeat' first | refine nx ?_ | refine C_cond_t rfl ?_ | refine C_cond_f rfl ?_ | refine Q_block_on rfl ?_
  (refine C_region ?_
   <;> (first | refine M_str rfl ?_ | refine W_move ?_))
  -- at operation 1: <dst=(some 14) op=(call <callee=(value (func 36)) args=[(tmp 13)] argTypes=[9]>) type=3 guard=none>
  refine W_call (gap_ok t w1 (by omega)) rfl ?_
  rintro v w2 ⟨rfl, rfl⟩
  ((refine M_assign ?_; (first | refine M_int rfl ?_ | refine W_move ?_))
   <;> refine W_nil ?_)
  repeat' first | refine nx ?_ | refine C_cond_t rfl ?_ | refine C_cond_f rfl ?_ | refine Q_block_on rfl ?_
  have hg0 := gapW_ge t _ 0 (Nat.le_refl _) (by omega)
  have hsg0 := scan_gap t [] _ 0 (Nat.le_refl _) (by omega)
  refine C_loop (α := Nat × Value × List Tok) (fun x => [(0, strV t), (5, x.2.1), (6, .int .i64 (x.1 : Int))])
    (fun x W => x.1 ≤ t.length ∧ gapW t x.1 = x.1 ∧ x.2.2.length ≤ 2000 ∧ Ext w W ∧ w.heap.size < W.heap.size ∧ W.ownsRow w.heap.size 32 3 x.2.1 x.2.2.length (toksC x.2.2) ∧ scanW t 0 [] = scanW t x.1 x.2.2) (fun x => t.length - x.1)
    (gapW t 0, .slice (some ⟨w.heap.size, 0, none⟩) 0 0, []) ⟨rfl, rfl, rfl, trivial⟩ ⟨hg0.2.1, hg0.2.2, by simp, n1.keep, by omega, o1, hsg0⟩ ?_
  rintro ⟨i, ov, ts⟩ w3 f3 ⟨hi, hgi, hc3, k3, z3, o3, hscan⟩
  simp only at hi hgi hc3 k3 z3 o3 hscan ⊢
  obtain ⟨oa, oc, rfl⟩ : ∃ oa oc, ov = .slice oa ts.length oc := by
    rcases o3.2 with ⟨rfl, h0⟩ | ⟨g, cap, cur, rfl, _⟩
    · exact ⟨none, 0, by rw [h0]⟩
    · exact ⟨_, _, rfl⟩
  repeat' first | refine nx ?_ | refine C_cond_t rfl ?_ | refine C_cond_f rfl ?_ | refine Q_block_on rfl ?_
  by_cases hlt : i < t.length
  · have hdl : (t.drop i).length = t.length - i := by simp
    obtain ⟨hk0, hk1⟩ := gap_stop hlt hgi
    have hstep := step_next t i ts hlt hk0 hk1
    (refine C_region ?_
     <;> (first | refine M_int rfl ?_ | refine W_move ?_)
     <;> (first | refine M_str rfl ?_ | refine W_move ?_)
     <;> refine W_slen rfl ?_
     <;> (refine W_lss rfl rfl (fun hc => ?_) (fun hc => ?_) <;> try (exfalso; omega))
     <;> refine W_nil ?_)
    repeat' first | refine nx ?_ | refine C_cond_t rfl ?_ | refine C_cond_f rfl ?_ | refine Q_block_on rfl ?_
    (refine C_region ?_
     <;> (first | refine M_str rfl ?_ | refine W_move ?_)
     <;> (first | refine M_int rfl ?_ | refine W_move ?_)
     <;> refine W_sslice_l rfl rfl (by omega) ?_)
    -- at operation 3: <dst=(some 23) op=(call <callee=(value (func 37)) args=[(tmp 22)] argTypes=[9]>) type=81 guard=none>
    refine W_call (rnext_ok (t.drop i) w3 (by omega) (by omega)) rfl ?_
    rintro v w4 ⟨k4, rfl⟩
    generalize hnx : nextM (t.drop i) = x at hstep
    obtain ⟨kd, n, ok⟩ := x
    simp only at hstep
    have htext : (t.drop i).take n = (t.take (i + n)).drop i := by rw [List.drop_take]; congr 1; omega
    ((first | refine M_tuple rfl ?_ | refine W_move ?_)
     <;> refine W_extract rfl rfl ?_
     <;> refine W_extract rfl rfl ?_)
    -- at operation 7: <dst=(some 7) op=(alloc 32) type=0 guard=none>
    refine W_newAgg (cs := [.int .i64 kd, strV ((t.drop i).take n), .int .i64 0]) rfl rfl (by rfl) (oneC_all rfl) (fun w5 n5 => ?_)
    have b5 := n5.blk
    have k5 : Ext w3 w5 := k4.trans n5.keep
    have z5 := k5.size
    have z45 := k4.size
    ((refine M_assign ?_; (first | refine M_bool rfl ?_ | refine W_move ?_))
     <;> refine W_nil ?_)
    repeat' first | refine nx ?_ | refine C_cond_t rfl ?_ | refine C_cond_f rfl ?_ | refine Q_block_on rfl ?_
    (refine C_region ?_
     <;> (first | refine M_bool rfl ?_ | refine W_move ?_)
     <;> refine W_not rfl ?_
     <;> refine W_nil ?_)
    cases ok with
    | false =>
      rw [if_neg (by simp)] at hstep
      repeat' first | refine nx ?_ | refine C_cond_t rfl ?_ | refine C_cond_f rfl ?_ | refine Q_block_on rfl ?_
      (refine C_region ?_
       <;> (first | refine M_int rfl ?_ | refine W_move ?_)
       <;> (refine M_assign ?_; (first | refine M_slice rfl ?_ | refine W_move ?_))
       <;> (refine M_assign ?_; (first | refine M_int rfl ?_ | refine W_move ?_))
       <;> (refine M_assign ?_; (first | refine M_int rfl ?_ | refine W_move ?_))
       <;> refine W_nil ?_)
      repeat' first | refine nx ?_ | refine C_cond_t rfl ?_ | refine C_cond_f rfl ?_ | refine Q_block_on rfl ?_
      refine fin_ret3 rfl ⟨none, 0, 40, i, [], rfl, k3.trans k5, hnil _, .inr ⟨i, ?_, by decide, rfl, rfl⟩⟩
      rw [hlex, hscan, scanW_step hlt, hstep]
    | true =>
      rw [if_pos rfl] at hstep
      have hpos := nextM_pos (u := t.drop i) (by omega) (by rw [hnx])
      rw [hnx, hdl] at hpos
      simp only at hpos
      have htl : ((t.drop i).take n).length = n := by simp; omega
      repeat' first | refine nx ?_ | refine C_cond_t rfl ?_ | refine C_cond_f rfl ?_ | refine Q_block_on rfl ?_
      by_cases h2000 : ts.length = 2000
      · have e : addM t i ts kd (i + n) = .error (2, i) := by unfold addM; rw [if_pos h2000]
        rw [e] at hstep
        (refine C_region ?_
         <;> (first | refine M_slice rfl ?_ | refine W_move ?_)
         <;> refine W_len rfl ?_
         <;> (refine W_eql rfl rfl (fun hc => ?_) (fun hc => ?_) <;> try (exfalso; omega))
         <;> refine W_nil ?_)
        repeat' first | refine nx ?_ | refine C_cond_t rfl ?_ | refine C_cond_f rfl ?_ | refine Q_block_on rfl ?_
        (refine C_region ?_
         <;> (first | refine M_int rfl ?_ | refine W_move ?_)
         <;> (refine M_assign ?_; (first | refine M_slice rfl ?_ | refine W_move ?_))
         <;> (refine M_assign ?_; (first | refine M_int rfl ?_ | refine W_move ?_))
         <;> (refine M_assign ?_; (first | refine M_int rfl ?_ | refine W_move ?_))
         <;> refine W_nil ?_)
        repeat' first | refine nx ?_ | refine C_cond_t rfl ?_ | refine C_cond_f rfl ?_ | refine Q_block_on rfl ?_
        refine fin_ret3 rfl ⟨none, 0, 2, i, [], rfl, k3.trans k5, hnil _, .inr ⟨i, ?_, by decide, rfl, rfl⟩⟩
        rw [hlex, hscan, scanW_step hlt, hstep]
      · have e : addM t i ts kd (i + n) = .ok (i + n, ts ++ [⟨kd, (t.take (i + n)).drop i, i⟩]) := by unfold addM; rw [if_neg h2000]
        rw [e, ← htext] at hstep
        generalize hT : (t.drop i).take n = y at hstep b5 htl
        (refine C_region ?_
         <;> (first | refine M_slice rfl ?_ | refine W_move ?_)
         <;> refine W_len rfl ?_
         <;> (refine W_eql rfl rfl (fun hc => ?_) (fun hc => ?_) <;> try (exfalso; omega))
         <;> refine W_nil ?_)
        repeat' first | refine nx ?_ | refine C_cond_t rfl ?_ | refine C_cond_f rfl ?_ | refine Q_block_on rfl ?_
        (refine C_region ?_
         <;> (first | refine M_int rfl ?_ | refine W_move ?_)
         <;> refine W_fieldAddr rfl ?_)
        -- at operation 2: <dst=none op=(store 3 (tmp 34) (tmp 33)) type=0 guard=none>
        refine W_store rfl rfl rfl b5 (by simp) (fun w6 p6 => ?_)
        have b6 : Blk w6 w4.heap.size 32 [.int .i64 kd, strV y, .int .i64 (i : Int)] := p6.blk
        have k6 : Ext w3 w6 := k5.keep p6.keep (by simp <;> omega)
        have z6 := p6.size
        refine W_nil ?_
        repeat' first | refine nx ?_ | refine C_cond_t rfl ?_ | refine C_cond_f rfl ?_ | refine Q_block_on rfl ?_
        (refine C_region ?_
         <;> (first | refine M_slice rfl ?_ | refine W_move ?_)
         <;> (first | refine W_load_aggB rfl (by assumption) (by rfl) ?_ | refine W_load_agg rfl (by rfl) (Blk.cells (by assumption)) ?_))
        -- at operation 2: <dst=(some 37) op=(buildSlice 24 1 [[0, (tmp 36)]]) type=24 guard=none>
        refine W_buildSlice (out := tokC ⟨kd, y, i⟩) rfl (by omega) (by rw [madeTok]; rfl) (fun w7 n7 => ?_)
        have o7 := n7.own (n := 1) (size := 3) rfl (by unfold maxLen; omega) (Nat.le_refl _)
        have z7 := n7.size
        have k7 : Ext w3 w7 := k6.trans n7.keep
        have b7 := b6.keep n7.keep (by simp)
        have hown : ∀ x ∈ (Value.slice oa ts.length oc).ownBlock.toList, w.heap.size ≤ x ∧ x < w3.heap.size := fun x hx => own_in o3 (Option.mem_toList.1 hx)
        refine W_append (ok := anyB) (v := .slice oa ts.length oc) rfl rfl (ownsRow_ext o3 k7) (Sl_of_own o7 fun _ _ => trivial) (by omega) rfl rfl (oneC_all rfl) (by omega) (by omega) (by omega) (fun v8 w8 a8 => ?_)
        have o8 := a8.own
        have z8 := a8.keep.size
        have b8 := b7.keep a8.keep (fun hx => by have := hown _ hx; omega)
        have k8 : Ext w w8 := (k3.trans k7).keep a8.keep (fun x hx => (hown x hx).1)
        ((refine M_assign ?_; (first | refine M_slice rfl ?_ | refine W_move ?_))
         <;> refine W_nil ?_)
        repeat' first | refine nx ?_ | refine C_cond_t rfl ?_ | refine C_cond_f rfl ?_ | refine Q_block_on rfl ?_
        (refine C_region ?_
         <;> (first | refine M_int rfl ?_ | refine W_move ?_)
         <;> refine W_fieldAddr rfl ?_
         <;> (first | refine W_load rfl (Blk.cell (by assumption) (by rfl)) ?_ | refine W_load rfl (by assumption) ?_)
         <;> refine W_slen rfl ?_
         <;> refine W_add rfl rfl (by first | exact inR_i64 (by omega) (by omega) | exact inR_u8 (by omega) (by omega) | exact inR_u16 (by omega) (by omega)) ?_
         <;> (refine M_assign ?_; (first | refine M_int rfl ?_ | refine W_move ?_))
         <;> refine W_nil ?_)
        repeat' first | refine nx ?_ | refine C_cond_t rfl ?_ | refine C_cond_f rfl ?_ | refine Q_block_on rfl ?_
        have hin : (i : Int) + (y.length : Int) = ((i + n : Nat) : Int) := by rw [htl]; omega
        rw [hin]
        (refine C_region ?_
         <;> (first | refine M_int rfl ?_ | refine W_move ?_)
         <;> (first | refine M_str rfl ?_ | refine W_move ?_)
         <;> (first | refine M_int rfl ?_ | refine W_move ?_)
         <;> refine W_sslice_l rfl rfl (by omega) ?_)
        -- at operation 4: <dst=(some 48) op=(call <callee=(value (func 36)) args=[(tmp 47)] argTypes=[9]>) type=3 guard=none>
        refine W_call (gap_ok (t.drop (i + n)) w8 (by simp; omega)) rfl ?_
        rintro v w9 ⟨rfl, rfl⟩
        have hgd := gapW_drop t (a := i + n) (by omega)
        have hgg := gapW_ge t _ (i + n) (Nat.le_refl _) (by omega)
        have hsg := scan_gap t (ts ++ [⟨kd, y, i⟩]) _ (i + n) (Nat.le_refl _) (by omega)
        (refine W_add rfl rfl (by first | exact inR_i64 (by omega) (by omega) | exact inR_u8 (by omega) (by omega) | exact inR_u16 (by omega) (by omega)) ?_
         <;> (refine M_assign ?_; (first | refine M_int rfl ?_ | refine W_move ?_))
         <;> refine W_nil ?_)
        repeat' first | refine nx ?_ | refine C_cond_t rfl ?_ | refine C_cond_f rfl ?_ | refine Q_block_on rfl ?_
        refine ⟨(gapW t (i + n), v8, ts ++ [⟨kd, y, i⟩]), ⟨rfl, ⟨rfl, rfl, ?_, trivial⟩, ⟨hgg.2.1, hgg.2.2, by simp; omega, k8, by omega, ?_, ?_⟩⟩, by simp only; omega⟩
        · show Value.int .i64 (((i + n : Nat) : Int) + (gapW (t.drop (i + n)) 0 : Int)) = _
          rw [hgd]; rw [← Int.natCast_add]
        · have e1 : toksC (ts ++ [⟨kd, y, i⟩]) = toksC ts ++ tokC ⟨kd, y, i⟩ := by simp [toksC]
          rw [e1, List.length_append]
          exact o8
        · rw [hscan, scanW_step hlt, hstep]
          exact hsg
  · obtain rfl : i = t.length := by omega
    (refine C_region ?_
     <;> (first | refine M_int rfl ?_ | refine W_move ?_)
     <;> (first | refine M_str rfl ?_ | refine W_move ?_)
     <;> refine W_slen rfl ?_
     <;> (refine W_lss rfl rfl (fun hc => ?_) (fun hc => ?_) <;> try (exfalso; omega))
     <;> refine W_nil ?_)
    repeat' first | refine nx ?_ | refine C_cond_t rfl ?_ | refine C_cond_f rfl ?_ | refine Q_block_on rfl ?_
    (refine C_region ?_
     <;> (first | refine M_slice rfl ?_ | refine W_move ?_)
     <;> (refine M_assign ?_; (first | refine M_slice rfl ?_ | refine W_move ?_))
     <;> (refine M_assign ?_; (first | refine M_int rfl ?_ | refine W_move ?_))
     <;> (refine M_assign ?_; (first | refine M_int rfl ?_ | refine W_move ?_))
     <;> refine W_nil ?_)
    repeat' first | refine nx ?_ | refine C_cond_t rfl ?_ | refine C_cond_f rfl ?_ | refine Q_block_on rfl ?_
    refine fin_ret3 rfl ⟨oa, oc, 0, -1, ts, rfl, k3, Sl_of_own (ok := anyB) o3 (fun _ _ => trivial), .inl ⟨?_, rfl, rfl⟩⟩
    rw [hlex, hscan, scanW_end]
end Go.Proofs.YtmnhnbpnjepkbaaGreatDoor

namespace Go.Proofs.YtmnhnbpnjepkbaaGreatDoor
open Go.RowKit
open Go.ChangeMaps (setBlock)
attribute [local semireducible] WC WOps thenQ blockQ scopeQ finQ finD stepP

variable {P : Program} {all : Array Oper} {Z : Fr → DS → List PanicEntry → World → Prop} {K : Fr → DS → World → Prop} {rest : List Oper} {f : Fr} {ds : DS} {w : World}
  {d : Nat} {ty : TypeId} {pos : String} {af : Array Edge}

class MapT (P : Program) (T : TypeId) : Prop where
  out : ∃ kt et i, P.underlying T = some (.map kt et) ∧ P.underlying kt = some (.int .i64) ∧ P.info? et = some i ∧ i.zero = some (.int .i64 0)

theorem mapT_of {T kt et : TypeId} (h1 : P.underlying T = some (.map kt et)) (h2 : P.underlying kt = some (.int .i64)) (h3 : (P.info? et).map (·.zero) = some (some (.int .i64 0))) : MapT P T := by
  obtain ⟨i, hi, hz⟩ := Option.map_eq_some_iff.1 h3
  exact ⟨kt, et, i, h1, h2, hi, hz⟩

def encP (p : Int × Int) : Value × Value := (.int .i64 p.1, .int .i64 p.2)
theorem encP_inj {p q : Int × Int} (h : encP p = encP q) : p = q := by
  obtain ⟨a, b⟩ := p; obtain ⟨c, e⟩ := q
  simp only [encP, Prod.mk.injEq, Value.int.injEq, true_and] at h
  rw [h.1, h.2]
def rdE (e : MapEntry) : Value × Value := (e.key, e.val)

/-- block r holds a map that reads as the pairs L -/
def IMap (w : World) (r : Nat) (L : List (Int × Int)) : Prop :=
  ∃ es clock, w.heap[r]? = some (.map es clock) ∧ MapKept.Stamped es clock ∧ es.toList.map rdE = L.map encP
theorem IMap.lt {r : Nat} {L : List (Int × Int)} (h : IMap w r L) : r < w.heap.size := by
  obtain ⟨es, c, h1, _⟩ := h; exact (Array.getElem?_eq_some_iff.1 h1).1
theorem IMap.keep {X : List Nat} {w' : World} {r : Nat} {L : List (Int × Int)} (h : IMap w r L) (k : Keep X w w') (hr : r ∉ X) : IMap w' r L := by
  obtain ⟨es, c, h1, h2, h3⟩ := id h
  exact ⟨es, c, (k.block r h.lt hr).trans h1, h2, h3⟩

theorem nodup_keys {r : Nat} {L : List (Int × Int)} (h : IMap w r L) : (L.map (·.1)).Nodup := by
  obtain ⟨es, c, _, ⟨_, _, h2⟩, h3⟩ := h
  have e : es.toList.map (·.key) = L.map (fun p => Value.int .i64 p.1) := by
    have := congrArg (List.map Prod.fst) h3
    simpa [rdE, encP, List.map_map, Function.comp_def] using this
  rw [e] at h2
  have h4 : ((L.map (·.1)).map (fun x => Value.int .i64 x)).Nodup := by rw [List.map_map]; exact h2
  exact List.Pairwise.of_map _ (fun a b hab e => hab (by rw [e])) h4

theorem keys_int {es : List MapEntry} {L : List (Int × Int)} (h : es.map rdE = L.map encP) : ∀ x ∈ es, MapKept.IsKey (.int .i64) x.key := by
  intro x hx
  have : rdE x ∈ L.map encP := by rw [← h]; exact List.mem_map.2 ⟨x, hx, rfl⟩
  obtain ⟨p, _, e⟩ := List.mem_map.1 this
  have : x.key = .int .i64 p.1 := (congrArg Prod.fst e).symm
  rw [this]; rfl

theorem lookup_some_of {L : List (Int × Int)} (hn : (L.map (·.1)).Nodup) {p : Int × Int} (hp : p ∈ L) : L.lookup p.1 = some p.2 := by
  induction L with
  | nil => cases hp
  | cons q L ih =>
    simp only [List.map_cons, List.nodup_cons] at hn
    obtain ⟨a, b⟩ := q
    rcases List.mem_cons.1 hp with rfl | hp
    · simp [List.lookup]
    · have : p.1 ≠ a := fun e => hn.1 (List.mem_map.2 ⟨p, hp, e⟩)
      rw [List.lookup_cons, beq_false_of_ne this]
      exact ih hn.2 hp
theorem lookup_none_of {L : List (Int × Int)} {x : Int} (h : ∀ p ∈ L, p.1 ≠ x) : L.lookup x = none := by
  induction L with
  | nil => rfl
  | cons q L ih =>
    obtain ⟨a, b⟩ := q
    rw [List.lookup_cons, beq_false_of_ne (fun e => h (a, b) (by simp) e.symm)]
    exact ih fun p hp => h p (List.mem_cons_of_mem _ hp)
theorem mem_of_lookup {L : List (Int × Int)} {x y : Int} (h : L.lookup x = some y) : (x, y) ∈ L := by
  induction L with
  | nil => simp at h
  | cons q L ih =>
    obtain ⟨a, b⟩ := q
    rw [List.lookup_cons] at h
    split at h
    · rename_i e
      cases h
      rw [eq_of_beq e]; simp
    · exact List.mem_cons_of_mem _ (ih h)

/-- what findKey answers -/
theorem find_int {kt : TypeId} {L : List (Int × Int)} (hk : P.underlying kt = some (.int .i64)) {es : Array MapEntry} (hm : es.toList.map rdE = L.map encP) (hn : (L.map (·.1)).Nodup) (x : Int) (w : World) :
    (L.lookup x = none ∧ (Instr.findKey kt (.int .i64 x) es.toList).run P w = .ok none w ∧ ∀ e ∈ es.toList, e.key ≠ .int .i64 x) ∨
    ∃ i y e, L.lookup x = some y ∧ (Instr.findKey kt (.int .i64 x) es.toList).run P w = .ok (some (i, .int .i64 y)) w ∧ es[i]? = some e ∧ L[i]? = some (x, y) ∧ e.key = .int .i64 x := by
  have hget : ∀ (i : Nat) (e : MapEntry), es.toList[i]? = some e → ∃ p, L[i]? = some p ∧ e.key = .int .i64 p.1 ∧ e.val = .int .i64 p.2 := by
    intro i e he
    have := congrArg (fun l => l[i]?) hm
    simp only [List.getElem?_map, he, Option.map_some] at this
    obtain ⟨p, hp, e2⟩ := Option.map_eq_some_iff.1 this.symm
    exact ⟨p, hp, (congrArg Prod.fst e2).symm, (congrArg Prod.snd e2).symm⟩
  rcases MapKept.findNow_spec (d := .int .i64) (k := .int .i64 x) rfl es.toList 0 (keys_int hm) with ⟨h1, h2⟩ | ⟨j, e, h1, h2, h3⟩
  · refine .inl ⟨lookup_none_of fun p hp hpx => ?_, MapKept.run_findKey hk h1, h2⟩
    obtain ⟨i, hi⟩ := List.getElem?_of_mem hp
    have := congrArg (fun l => l[i]?) hm
    simp only [List.getElem?_map, hi, Option.map_some] at this
    obtain ⟨e, he, e2⟩ := Option.map_eq_some_iff.1 this
    refine h2 e (List.mem_of_getElem? he) ?_
    rw [show e.key = .int .i64 p.1 from congrArg Prod.fst e2, hpx]
  · obtain ⟨p, hp, e1, e2⟩ := hget j e h2
    rw [h3] at e1
    have hx : x = p.1 := by simpa using e1
    refine .inr ⟨j, p.2, e, ?_, ?_, by simpa using h2, by rw [hp, hx], h3⟩
    · rw [hx]; exact lookup_some_of hn (List.mem_of_getElem? hp)
    · have := MapKept.run_findKey (P := P) (w := w) hk h1
      rw [this, e2, Nat.zero_add]

def insL (L : List (Int × Int)) (x y : Int) : List (Int × Int) := if (L.lookup x).isSome then L.map (fun p => if p.1 = x then (x, y) else p) else L ++ [(x, y)]

theorem W_makeMap {T : TypeId} (h : ∀ w', Ext w w' → w'.heap.size = w.heap.size + 1 → IMap w' w.heap.size [] → WOps P all Z K rest (upd f d (.map (some w.heap.size))) ds w') :
    WOps P all Z K (⟨some d, .makeMap T none, ty, pos, af, none⟩ :: rest) f ds w := by
  refine W_val (v := .map (some w.heap.size)) (w' := w.alloc (.map #[] 0)) rfl ?_ (h _ ⟨rfl, rfl, rfl, by simp, fun k hk _ => heap_alloc_old w _ hk⟩ (by simp) ⟨#[], 0, heap_alloc_new w _, MapKept.stamped_empty 0, rfl⟩)
  have hr : (Instr.makeMap T none).run P w = .ok (.map (some w.heap.size)) (w.alloc (.map #[] 0)) := rfl
  simp [execOp, hr]

theorem W_lookup {T : TypeId} {m k : Operand} {r : Nat} {x : Int} {L : List (Int × Int)} [hT : MapT P T] (hm : ev f m = .map (some r)) (hk : ev f k = .int .i64 x) (hL : IMap w r L)
    (h : WOps P all Z K rest (upd f d (.int .i64 ((L.lookup x).getD 0))) ds w) : WOps P all Z K (⟨some d, .lookup T m k false, ty, pos, af, none⟩ :: rest) f ds w := by
  obtain ⟨kt, et, i, h1, h2, h3, h4⟩ := hT.out
  have hn := nodup_keys hL
  obtain ⟨es, clock, hb, hs, hmm⟩ := hL
  refine W_val rfl ?_ h
  have hck := MapKept.run_checkKey (P := P) (w := w) (k := .int .i64 x) h2 rfl es.isEmpty 9999
  have hz : (zeroValue et).run P w = .ok (.int .i64 0) w := by simp [zeroValue, typeInfo, h3, h4]
  rcases find_int h2 hmm hn x w with ⟨e1, e2, _⟩ | ⟨j, y, e, e1, e2, _⟩
  · simp [execOp, hm, hk, Instr.lookup, run_underlying h1, MapKept.run_getObj_map hb, hck, e2, hz, e1]
  · simp [execOp, hm, hk, Instr.lookup, run_underlying h1, MapKept.run_getObj_map hb, hck, e2, e1]

theorem setBlk_keep {w : World} {r : Nat} {o' : Obj} : Keep [r] w { w with heap := w.heap.setIfInBounds r o' } :=
  ⟨rfl, rfl, rfl, by simp, fun k _ hk => by simp [Ne.symm (show k ≠ r by simpa using hk)]⟩
theorem stamped_mod {es : Array MapEntry} {clock j : Nat} {x : Int} {v : Value} (hs : MapKept.Stamped es clock) {e : MapEntry} (he : es[j]? = some e) (hk : e.key = .int .i64 x) : MapKept.Stamped (es.modify j fun e => { e with key := .int .i64 x, val := v }) clock :=
  MapKept.stamped_modify hs _ _ (fun _ _ => rfl) fun e' _ he' => by rw [he] at he'; cases he'; exact hk.symm

theorem W_mapUpdate {T : TypeId} {m k v : Operand} {r : Nat} {x y : Int} {L : List (Int × Int)} [hT : MapT P T] (hm : ev f m = .map (some r)) (hk : ev f k = .int .i64 x) (hv : ev f v = .int .i64 y) (hL : IMap w r L)
    (h : ∀ w', Keep [r] w w' → w'.heap.size = w.heap.size → IMap w' r (insL L x y) → WOps P all Z K rest f ds w') : WOps P all Z K (⟨none, .mapUpdate T m k v, ty, pos, af, none⟩ :: rest) f ds w := by
  obtain ⟨kt, et, i, h1, h2, h3, h4⟩ := hT.out
  have hn := nodup_keys hL
  obtain ⟨es, clock, hb, hs, hmm⟩ := hL
  have hck := MapKept.run_checkKey (P := P) (w := w) (k := .int .i64 x) h2 rfl false 9999
  rcases find_int h2 hmm hn x w with ⟨e1, e2, e3⟩ | ⟨j, y0, e, e1, e2, e3, e4, e5⟩
  · refine W_skp (w' := { w with heap := w.heap.setIfInBounds r (.map (es.push { key := .int .i64 x, val := .int .i64 y, born := clock }) (clock + 1)) }) rfl ?_ (h _ setBlk_keep (by simp) ⟨_, _, (MapKept.heap_set hb).1, MapKept.stamped_push hs e3, ?_⟩)
    · simp [execOp, hm, hk, hv, Instr.mapUpdate, run_underlying h1, MapKept.run_getObj_map hb, hck, e2, MapKept.run_setObj_map _ hb]
    · rw [insL, e1, Array.toList_push, List.map_append, hmm]
      simp [rdE, encP]
  · have hes : es[j]? = some e := e3
    refine W_skp (w' := { w with heap := w.heap.setIfInBounds r (.map (es.modify j fun e => { e with key := .int .i64 x, val := .int .i64 y }) clock) }) rfl ?_ (h _ setBlk_keep (by simp) ⟨_, _, (MapKept.heap_set hb).1, stamped_mod hs hes e5, ?_⟩)
    · have hst : (Instr.keyThatStays (.int .i64 x) (.int .i64 x)).run P w = .ok (.int .i64 x) w := MapKept.run_keyThatStays (d := .int .i64) rfl
      simp [execOp, hm, hk, hv, Instr.mapUpdate, run_underlying h1, MapKept.run_getObj_map hb, hck, e2, hes, e5, hst, MapKept.run_setObj_map _ hb]
    · rw [insL, e1, Option.isSome_some, if_pos rfl]
      apply List.ext_getElem?
      intro q
      have hq := congrArg (fun l => l[q]?) hmm
      simp only [List.getElem?_map] at hq
      simp only [List.getElem?_map, Array.getElem?_toList, Array.getElem?_modify]
      by_cases hqj : j = q
      · subst hqj
        rw [hes, e4]
        simp [rdE, encP]
      · rw [if_neg hqj]
        rw [Array.getElem?_toList] at hq
        rw [hq]
        cases hLq : L[q]? with
        | none => rfl
        | some p =>
          have hne : p.1 ≠ x := by
            intro hpx
            have hi : ∀ a b : Nat, (L.map (·.1))[a]? = some x → (L.map (·.1))[b]? = some x → a = b := by
              intro a b ha hb'
              obtain ⟨ha1, ha2⟩ := List.getElem?_eq_some_iff.1 ha
              obtain ⟨hb1, hb2⟩ := List.getElem?_eq_some_iff.1 hb'
              have hpw := List.pairwise_iff_getElem.1 hn
              rcases Nat.lt_trichotomy a b with hlt | rfl | hlt
              · exact absurd (ha2.trans hb2.symm) (hpw a b ha1 hb1 hlt)
              · rfl
              · exact absurd (hb2.trans ha2.symm) (hpw b a hb1 ha1 hlt)
            exact hqj (hi j q (by simp [e4]) (by simp [hLq, hpx]))
          simp [hne]

theorem lookup_map_set {x y z : Int} : ∀ L : List (Int × Int), (L.lookup x).isSome = true → (L.map (fun p => if p.1 = x then (x, y) else p)).lookup z = if z = x then some y else L.lookup z
  | [], h => by simp at h
  | (a, b) :: L, h => by
    rw [List.map_cons]
    by_cases hax : a = x
    · subst hax
      simp only [if_pos]
      rw [List.lookup_cons, List.lookup_cons]
      by_cases hz : z = a
      · subst hz; simp
      · rw [beq_false_of_ne hz, if_neg hz]
        simp only
        clear h
        induction L with
        | nil => rfl
        | cons q L ih =>
          obtain ⟨c, e⟩ := q
          rw [List.map_cons]
          by_cases hca : c = a
          · subst hca
            simp only [if_pos]
            rw [List.lookup_cons, List.lookup_cons, beq_false_of_ne hz]
            exact ih
          · simp only [if_neg hca]
            rw [List.lookup_cons, List.lookup_cons]
            split
            · rfl
            · exact ih
    · rw [List.lookup_cons, beq_false_of_ne (fun e => hax e.symm)] at h
      simp only [if_neg hax]
      rw [List.lookup_cons, List.lookup_cons, lookup_map_set L h]
      by_cases hza : z = a
      · subst hza; simp [hax]
      · rw [beq_false_of_ne hza]
theorem lookup_snoc {x y z : Int} : ∀ L : List (Int × Int), L.lookup x = none → (L ++ [(x, y)]).lookup z = if z = x then some y else L.lookup z
  | [], _ => by
    by_cases h : z = x
    · subst h; simp
    · simp [List.lookup, h, beq_false_of_ne h]
  | (a, b) :: L, hx => by
    rw [List.lookup_cons] at hx
    split at hx
    · cases hx
    · rename_i hne
      rw [List.cons_append, List.lookup_cons, List.lookup_cons, lookup_snoc L hx]
      by_cases hza : z = a
      · subst hza
        have : z ≠ x := fun e => by subst e; simp at hne
        simp [this]
      · rw [beq_false_of_ne hza]
theorem lookup_insL {L : List (Int × Int)} {x y z : Int} : (insL L x y).lookup z = if z = x then some y else L.lookup z := by
  unfold insL
  cases hx : L.lookup x with
  | none => rw [Option.isSome_none, if_neg (by simp)]; exact lookup_snoc L hx
  | some y0 => rw [Option.isSome_some, if_pos rfl]; exact lookup_map_set L (by rw [hx]; rfl)

/-! ### A range over a map -/
def rdI (e : MapEntry) : Int × Int := (valOf e.key, valOf e.val)
theorem rdI_of {es : List MapEntry} {L : List (Int × Int)} (h : es.map rdE = L.map encP) : (∀ x ∈ es, rdE x = encP (rdI x)) ∧ es.map rdI = L := by
  induction es generalizing L with
  | nil => cases L with
    | nil => exact ⟨fun x hx => by simp at hx, rfl⟩
    | cons _ _ => simp at h
  | cons e es ih => cases L with
    | nil => simp at h
    | cons p L =>
      simp only [List.map_cons, List.cons.injEq] at h
      obtain ⟨h1, h2⟩ := h
      have e1 : e.key = .int .i64 p.1 := congrArg Prod.fst h1
      have e2 : e.val = .int .i64 p.2 := congrArg Prod.snd h1
      have e3 : rdI e = p := by unfold rdI; rw [e1, e2]; rfl
      obtain ⟨i1, i2⟩ := ih h2
      refine ⟨fun x hx => ?_, by rw [List.map_cons, e3, i2]⟩
      rcases List.mem_cons.1 hx with rfl | hx
      · rw [e3]; exact h1
      · exact i1 x hx
/-- block it holds an iterator over the map in block r; left is still to come -/
def Iter (w : World) (it r : Nat) (left : List (Int × Int)) : Prop :=
  ∃ es clock since c0 seen, w.heap[it]? = some (.mapIter (some r) since seen c0) ∧ w.heap[r]? = some (.map es clock) ∧ MapKept.Stamped es clock ∧ (∀ x ∈ es.toList, x.born < since) ∧ since ≤ c0 ∧ since ≤ clock ∧
    (∀ x ∈ es.toList, rdE x = encP (rdI x)) ∧ (leftOf es seen).toList.map rdI = left
/-- p has just come out -/
def Cur (w : World) (it r : Nat) (p : Int × Int) : Prop :=
  ∃ (es : Array MapEntry) (clock since : Nat) (seen : Array Nat) (e : MapEntry), w.heap[it]? = some (.mapIter (some r) since (seen.push e.born) clock) ∧ w.heap[r]? = some (.map es clock) ∧ e ∈ es.toList ∧ (es.toList.map (·.born)).Nodup ∧ rdE e = encP p

theorem Iter.keep {X : List Nat} {w' : World} {it r : Nat} {left : List (Int × Int)} (h : Iter w it r left) (k : Keep X w w') (h1 : it ∉ X) (h2 : r ∉ X) : Iter w' it r left := by
  obtain ⟨es, clock, since, c0, seen, a, b, c⟩ := h
  exact ⟨es, clock, since, c0, seen, (k.block it (Array.getElem?_eq_some_iff.1 a).1 h1).trans a, (k.block r (Array.getElem?_eq_some_iff.1 b).1 h2).trans b, c⟩
theorem Cur.keep {X : List Nat} {w' : World} {it r : Nat} {p : Int × Int} (h : Cur w it r p) (k : Keep X w w') (h1 : it ∉ X) (h2 : r ∉ X) : Cur w' it r p := by
  obtain ⟨es, clock, since, seen, e, a, b, c⟩ := h
  exact ⟨es, clock, since, seen, e, (k.block it (Array.getElem?_eq_some_iff.1 a).1 h1).trans a, (k.block r (Array.getElem?_eq_some_iff.1 b).1 h2).trans b, c⟩

theorem W_rangeMap {T : TypeId} {m : Operand} {r : Nat} {L : List (Int × Int)} [hT : MapT P T] (hm : ev f m = .map (some r)) (hL : IMap w r L)
    (h : ∀ w', Ext w w' → w'.heap.size = w.heap.size + 1 → Iter w' w.heap.size r L → WOps P all Z K rest (upd f d (.pointer (some ⟨w.heap.size, 0, none⟩))) ds w') : WOps P all Z K (⟨some d, .range T m, ty, pos, af, none⟩ :: rest) f ds w := by
  obtain ⟨kt, et, i, h1, _⟩ := hT.out
  have hlt := hL.lt
  obtain ⟨es, clock, hb, hs, hmm⟩ := hL
  refine W_val (v := .pointer (some ⟨w.heap.size, 0, none⟩)) (w' := w.alloc (.mapIter (some r) clock #[] clock)) rfl ?_
    (h _ ⟨rfl, rfl, rfl, by simp, fun k hk _ => heap_alloc_old w _ hk⟩ (by simp) ⟨es, clock, clock, clock, #[], heap_alloc_new w _, (heap_alloc_old w _ hlt).trans hb, hs, hs.1, Nat.le_refl _, Nat.le_refl _, (rdI_of hmm).1, ?_⟩)
  · simp [execOp, hm, run_range_map w T _ _ r es clock h1 hb]
  · have e : leftOf es #[] = es := by
      unfold leftOf
      exact Array.filter_eq_self.2 fun x _ => by simp
    rw [e]; exact (rdI_of hmm).2

theorem setBlock_keep {w : World} {it : Nat} {o : Obj} : Keep [it] w (setBlock w it o) :=
  ⟨rfl, rfl, rfl, by simp [setBlock], fun k _ hk => by simp [setBlock, Ne.symm (show k ≠ it by simpa using hk)]⟩

theorem W_nextMap {it : Operand} {b r : Nat} {left : List (Int × Int)} (hi : ev f it = .pointer (some ⟨b, 0, none⟩)) (hI : Iter w b r left) (hne : b ≠ r)
    (hd : left = [] → WOps P all Z K rest (upd f d (.tuple #[.bool false])) ds w)
    (hm : ∀ p w', p ∈ left → Keep [b] w w' → w'.heap.size = w.heap.size → Iter w' b r (left.filter fun q => !(q.1 == p.1)) → Cur w' b r p → WOps P all Z K rest (upd f d (.tuple #[.bool true, .int .i64 p.1, .int .i64 p.2])) ds w') :
    WOps P all Z K (⟨some d, .next it false, ty, pos, af, none⟩ :: rest) f ds w := by
  obtain ⟨es, clock, since, c0, seen, a, hb, hs, h1, h2, h2', hL, h3⟩ := hI
  rcases run_next_at (P := P) w ty b r since c0 seen es clock a hb h1 h2 with ⟨h0, hr⟩ | ⟨e, he, w1, hw1, hr⟩
  · have hl : left = [] := by
      have := congrArg List.length h3
      simp only [List.length_map, Array.length_toList, h0] at this
      exact List.eq_nil_of_length_eq_zero this.symm
    exact W_val rfl (by simp [execOp, hi, hr]) (hd hl)
  · have hmem := mem_left he
    have hpe := hL e hmem.1
    have ek : e.key = .int .i64 (rdI e).1 := congrArg Prod.fst hpe
    have ev' : e.val = .int .i64 (rdI e).2 := congrArg Prod.snd hpe
    have kw1 : w1.os = w.os ∧ w1.tape = w.tape ∧ w1.output = w.output ∧ w1.heap = w.heap := by rcases hw1 with rfl | rfl <;> exact ⟨rfl, rfl, rfl, rfl⟩
    have a1 : w1.heap[b]? = some (.mapIter (some r) since seen c0) := by rw [kw1.2.2.2]; exact a
    have b1 : w1.heap[r]? = some (.map es clock) := by rw [kw1.2.2.2]; exact hb
    have hit : (setBlock w1 b (.mapIter (some r) since (seen.push e.born) clock)).heap[b]? = some (.mapIter (some r) since (seen.push e.born) clock) := (MapKept.heap_set a1).1
    have hbr : (setBlock w1 b (.mapIter (some r) since (seen.push e.born) clock)).heap[r]? = some (.map es clock) := ((MapKept.heap_set a1).2 r (Ne.symm hne)).trans b1
    have hk : Keep [b] w (setBlock w1 b (.mapIter (some r) since (seen.push e.born) clock)) := by
      have k2 := setBlock_keep (w := w1) (it := b) (o := .mapIter (some r) since (seen.push e.born) clock)
      refine ⟨k2.os.trans kw1.1, k2.tape.trans kw1.2.1, k2.output.trans kw1.2.2.1, by have := k2.size; rw [kw1.2.2.2] at this; exact this, fun i hi1 hi2 => ?_⟩
      have := k2.block i (by rw [kw1.2.2.2]; exact hi1) hi2
      rw [this, kw1.2.2.2]
    have hsz : (setBlock w1 b (.mapIter (some r) since (seen.push e.born) clock)).heap.size = w.heap.size := by
      show (w1.heap.setIfInBounds b _).size = _
      rw [Array.size_setIfInBounds, kw1.2.2.2]
    refine W_val (v := .tuple #[.bool true, e.key, e.val]) (w' := setBlock w1 b (.mapIter (some r) since (seen.push e.born) clock)) rfl (by simp [execOp, hi, hr]) ?_
    rw [ek, ev']
    refine hm (rdI e) _ (by rw [← h3]; exact List.mem_map.2 ⟨e, he, rfl⟩) hk hsz ⟨es, clock, since, clock, seen.push e.born, hit, hbr, hs, h1, h2', h2', hL, ?_⟩ ⟨es, clock, since, seen, e, hit, hbr, hmem.1, hs.2.1, hpe⟩
    have hf : (leftOf es (seen.push e.born)).toList = (leftOf es seen).toList.filter fun x => !((rdI x).1 == (rdI e).1) := by
      unfold leftOf
      rw [Array.toList_filter, Array.toList_filter, List.filter_filter]
      refine List.filter_congr fun x hx => ?_
      rw [contains_push]
      have hx1 : x.born = e.born ↔ (rdI x).1 = (rdI e).1 := by
        constructor
        · intro hh
          rw [born_inj hs.2.1 hx hmem.1 hh]
        · intro hh
          have hkk : x.key = e.key := by rw [show x.key = .int .i64 (rdI x).1 from congrArg Prod.fst (hL x hx), ek, hh]
          have hnk := hs.2.2
          have : x = e := by
            obtain ⟨i, hi'⟩ := List.getElem?_of_mem hx
            obtain ⟨j, hj'⟩ := List.getElem?_of_mem hmem.1
            obtain ⟨hi1, hi2⟩ := List.getElem?_eq_some_iff.1 hi'
            obtain ⟨hj1, hj2⟩ := List.getElem?_eq_some_iff.1 hj'
            have hpw := List.pairwise_iff_getElem.1 hnk
            rcases Nat.lt_trichotomy i j with hlt | rfl | hlt
            · exact absurd (by rw [List.getElem_map, List.getElem_map, hi2, hj2, hkk]) (hpw i j (by simpa using hi1) (by simpa using hj1) hlt)
            · exact hi2.symm.trans hj2
            · exact absurd (by rw [List.getElem_map, List.getElem_map, hi2, hj2, hkk]) (hpw j i (by simpa using hj1) (by simpa using hi1) hlt)
          rw [this]
      by_cases hc : x.born = e.born
      · rw [hx1.1 hc]; simp [hc]
      · rw [beq_false_of_ne hc, beq_false_of_ne fun h => hc (hx1.2 h)]; simp
    rw [hf, ← h3, List.filter_map]
    rfl

theorem W_entryMap {it : Operand} {b r : Nat} {p : Int × Int} (hi : ev f it = .pointer (some ⟨b, 0, none⟩)) (hC : Cur w b r p) (h : WOps P all Z K rest (upd f d (.tuple #[.int .i64 p.1, .int .i64 p.2])) ds w) :
    WOps P all Z K (⟨some d, .entry it, ty, pos, af, none⟩ :: rest) f ds w := by
  obtain ⟨es, clock, since, seen, e, a, hb, he, hn, hp⟩ := hC
  have hr := run_entry_at (P := P) w b r since seen es clock e a hb he hn
  refine W_val rfl ?_ h
  rw [show e.key = .int .i64 p.1 from congrArg Prod.fst hp, show e.val = .int .i64 p.2 from congrArg Prod.snd hp] at hr
  simp [execOp, hi, hr]

/-! ### max, min -/
theorem W_max {x y : Operand} {a b : Int} {T1 T2 : TypeId} (hx : ev f x = .int .i64 a) (hy : ev f y = .int .i64 b) (h : WOps P all Z K rest (upd f d (.int .i64 (max a b))) ds w) :
    WOps P all Z K (⟨some d, .call ⟨.builtin .max, #[x, y], #[T1, T2]⟩, ty, pos, af, none⟩ :: rest) f ds w := by
  refine W_val rfl ?_ h
  simp [execOp, resolve, invoke, builtin, hx, hy, Builtin.max_, Builtin.max2]
  split <;> omega
theorem W_min {x y : Operand} {a b : Int} {T1 T2 : TypeId} (hx : ev f x = .int .i64 a) (hy : ev f y = .int .i64 b) (h : WOps P all Z K rest (upd f d (.int .i64 (min a b))) ds w) :
    WOps P all Z K (⟨some d, .call ⟨.builtin .min, #[x, y], #[T1, T2]⟩, ty, pos, af, none⟩ :: rest) f ds w := by
  refine W_val rfl ?_ h
  simp [execOp, resolve, invoke, builtin, hx, hy, Builtin.min_, Builtin.min2]
  split <;> omega
end Go.Proofs.YtmnhnbpnjepkbaaGreatDoor
