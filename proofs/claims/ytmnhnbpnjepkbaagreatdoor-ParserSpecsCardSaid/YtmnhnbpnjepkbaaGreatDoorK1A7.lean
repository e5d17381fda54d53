/- The parser: names. Rules: bytes out of a string, an interface held against nil. The parser: numbers. The parser: accepts, expect, name, number. The parser: operators, indices, nodes. Conditions: none. -/
import Derived.Test.YtmnhnbpnjepkbaaGreatDoorK1A6
import Derived.Lib.ConvBytes

namespace Go.Proofs.YtmnhnbpnjepkbaaGreatDoor
open Go.RowKit
set_option linter.unusedVariables false

def keyC : List Value := keysL.map strV
/-- what the packages' variables hold -/
structure GK (w : World) : Prop where
  gv : GV w
  keys : Cells w 0 0 keyC
theorem GK.keep {X : List Nat} {w w' : World} (h : GK w) (k : Keep X w w') (hX : ∀ x ∈ X, 8 ≤ x) : GK w' :=
  ⟨h.gv.keep k (fun hx => by have := hX _ hx; omega) (fun hx => by have := hX _ hx; omega), h.keys.keep k (fun hx => by have := hX _ hx; omega)⟩
theorem GK.ext {w w' : World} (h : GK w) (k : Ext w w') : GK w' := h.keep k fun x hx => by cases hx

/-- a byte at a place of a name -/
def okAt (i : Nat) (c : UInt8) : Bool := isSmall c || (decide (0 < i) && (isDig c || decide (c.toNat = 95)))
def shapeB (s : List UInt8) : Bool := isSmall (s.getD 0 0) && s.all restB
theorem shapeB_iff (s : List UInt8) (h : 1 ≤ s.length) : shapeB s = true ↔ ∀ (i : Nat) (c : UInt8), s[i]? = some c → okAt i c = true := by
  match s, h with
  | d :: s, _ =>
    simp only [shapeB, List.getD_eq_getElem?_getD, List.getElem?_cons_zero, Option.getD_some, Bool.and_eq_true, List.all_eq_true]
    constructor
    · rintro ⟨h1, h2⟩ i c hc
      cases i with
      | zero => simp at hc; subst hc; simp [okAt, h1]
      | succ i =>
        have := h2 c (List.mem_of_getElem? hc)
        simp [restB] at this
        simp [okAt]
        rcases this with (h | h) | h
        · exact .inl h
        · exact .inr (.inl h)
        · exact .inr (.inr h)
    · intro h
      have h0 := h 0 d rfl
      simp [okAt] at h0
      refine ⟨h0, fun c hc => ?_⟩
      obtain ⟨i, hi⟩ := List.getElem?_of_mem hc
      have := h i c hi
      simp only [okAt, restB, Bool.or_eq_true, Bool.and_eq_true, decide_eq_true_eq] at this ⊢
      rcases this with h | ⟨_, h | h⟩
      · exact .inl (.inl h)
      · exact .inl (.inr h)
      · exact .inr h
theorem nameB_eq (s : List UInt8) : nameB s = (decide (1 ≤ s.length) && decide (s.length ≤ 12) && shapeB s && !decide (s ∈ keysL)) := by
  unfold nameB shapeB
  cases decide (1 ≤ s.length) <;> cases decide (s.length ≤ 12) <;> cases isSmall (s.getD 0 0) <;> cases s.all restB <;> rfl


theorem sigName_ok (s : List UInt8) (w : World) (hG : GK w) : Fn Tryz.prog 35 [strV s] w fun v w' => v = .bool (nameB s) ∧ w' = w := by
  refine fn_of_wc Tryz.func35 rfl Tryz.ntmps35 (Nat.le_of_ble_eq_true rfl) (by kernel_rfl) ?_
  repeat' first | refine nx ?_ | refine C_cond_t rfl ?_ | refine C_cond_f rfl ?_ | refine Q_block_on rfl ?_
  (refine C_region ?_
   <;> (refine M_assign ?_; (first | refine M_bool rfl ?_ | refine W_move ?_))
   <;> refine W_nil ?_)
  repeat' first | refine nx ?_ | refine C_cond_t rfl ?_ | refine C_cond_f rfl ?_ | refine Q_block_on rfl ?_
  by_cases h1 : s.length < 1
  · (refine C_region ?_
     <;> (first | refine M_str rfl ?_ | refine W_move ?_)
     <;> refine W_slen rfl ?_
     <;> (refine W_lss rfl rfl (fun hc => ?_) (fun hc => ?_) <;> try (exfalso; omega))
     <;> (first | refine M_bool rfl ?_ | refine W_move ?_)
     <;> (first | refine W_no rfl ?_ | (refine W_yes rfl ?_; (first | refine M_str rfl ?_ | refine W_move ?_)))
     <;> (first | refine W_no rfl ?_ | (refine W_yes rfl ?_; refine W_slen rfl ?_))
     <;> (first | refine W_no rfl ?_ | (refine W_yes rfl ?_; (refine W_gtr rfl rfl (fun hc => ?_) (fun hc => ?_) <;> try (exfalso; omega))))
     <;> ((first | refine M_pick_t rfl ?_ | refine M_pick_f rfl ?_); (first | refine M_bool rfl ?_ | refine W_move ?_))
     <;> refine W_nil ?_)
    repeat' first | refine nx ?_ | refine C_cond_t rfl ?_ | refine C_cond_f rfl ?_ | refine Q_block_on rfl ?_
    (refine C_region ?_
     <;> (refine M_assign ?_; (first | refine M_bool rfl ?_ | refine W_move ?_))
     <;> refine W_nil ?_)
    repeat' first | refine nx ?_ | refine C_cond_t rfl ?_ | refine C_cond_f rfl ?_ | refine Q_block_on rfl ?_
    exact fin_ret1 rfl ⟨by rw [nameB_eq, decide_eq_false (show ¬ 1 ≤ s.length by omega)]; rfl, rfl⟩
  by_cases h12 : 12 < s.length
  · (refine C_region ?_
     <;> (first | refine M_str rfl ?_ | refine W_move ?_)
     <;> refine W_slen rfl ?_
     <;> (refine W_lss rfl rfl (fun hc => ?_) (fun hc => ?_) <;> try (exfalso; omega))
     <;> (first | refine M_bool rfl ?_ | refine W_move ?_)
     <;> (first | refine W_no rfl ?_ | (refine W_yes rfl ?_; (first | refine M_str rfl ?_ | refine W_move ?_)))
     <;> (first | refine W_no rfl ?_ | (refine W_yes rfl ?_; refine W_slen rfl ?_))
     <;> (first | refine W_no rfl ?_ | (refine W_yes rfl ?_; (refine W_gtr rfl rfl (fun hc => ?_) (fun hc => ?_) <;> try (exfalso; omega))))
     <;> ((first | refine M_pick_t rfl ?_ | refine M_pick_f rfl ?_); (first | refine M_bool rfl ?_ | refine W_move ?_))
     <;> refine W_nil ?_)
    repeat' first | refine nx ?_ | refine C_cond_t rfl ?_ | refine C_cond_f rfl ?_ | refine Q_block_on rfl ?_
    (refine C_region ?_
     <;> (refine M_assign ?_; (first | refine M_bool rfl ?_ | refine W_move ?_))
     <;> refine W_nil ?_)
    repeat' first | refine nx ?_ | refine C_cond_t rfl ?_ | refine C_cond_f rfl ?_ | refine Q_block_on rfl ?_
    exact fin_ret1 rfl ⟨by rw [nameB_eq, decide_eq_false (show ¬ s.length ≤ 12 by omega)]; simp [upd, Nat.beq], rfl⟩
  (refine C_region ?_
   <;> (first | refine M_str rfl ?_ | refine W_move ?_)
   <;> refine W_slen rfl ?_
   <;> (refine W_lss rfl rfl (fun hc => ?_) (fun hc => ?_) <;> try (exfalso; omega))
   <;> (first | refine M_bool rfl ?_ | refine W_move ?_)
   <;> (first | refine W_no rfl ?_ | (refine W_yes rfl ?_; (first | refine M_str rfl ?_ | refine W_move ?_)))
   <;> (first | refine W_no rfl ?_ | (refine W_yes rfl ?_; refine W_slen rfl ?_))
   <;> (first | refine W_no rfl ?_ | (refine W_yes rfl ?_; (refine W_gtr rfl rfl (fun hc => ?_) (fun hc => ?_) <;> try (exfalso; omega))))
   <;> ((first | refine M_pick_t rfl ?_ | refine M_pick_f rfl ?_); (first | refine M_bool rfl ?_ | refine W_move ?_))
   <;> refine W_nil ?_)
  repeat' first | refine nx ?_ | refine C_cond_t rfl ?_ | refine C_cond_f rfl ?_ | refine Q_block_on rfl ?_
  (refine C_region ?_
   <;> (refine M_assign ?_; (first | refine M_bool rfl ?_ | refine W_move ?_))
   <;> refine W_nil ?_)
  repeat' first | refine nx ?_ | refine C_cond_t rfl ?_ | refine C_cond_f rfl ?_ | refine Q_block_on rfl ?_
  (refine C_region ?_
   <;> (first | refine M_str rfl ?_ | refine W_move ?_)
   <;> refine W_slen rfl ?_
   <;> (first | refine M_int rfl ?_ | refine W_move ?_)
   <;> refine W_nil ?_)
  repeat' first | refine nx ?_ | refine C_cond_t rfl ?_ | refine C_cond_f rfl ?_ | refine Q_block_on rfl ?_
  refine C_loop (α := Nat) (fun k => [(0, strV s), (3, .bool true), (17, .int .i64 (s.length : Int)), (18, .int .i64 (k : Int))]) (fun k w1 => k ≤ s.length ∧ (∀ (i : Nat) (c : UInt8), i < k → s[i]? = some c → okAt i c = true) ∧ w1 = w) (fun k => s.length - k) 0 ⟨rfl, rfl, rfl, rfl, trivial⟩ ⟨by omega, fun i c hi => by omega, rfl⟩ ?_
  rintro k w1 f1 ⟨hk, hok, rfl⟩
  repeat' first | refine nx ?_ | refine C_cond_t rfl ?_ | refine C_cond_f rfl ?_ | refine Q_block_on rfl ?_
  by_cases hlt : k < s.length
  · have hc0 : s[k]? = some s[k] := List.getElem?_eq_getElem hlt
    generalize s[k] = c at hc0
    have cb := c.toNat_lt
    have step : okAt k c = true → ∀ (i : Nat) (d : UInt8), i < k + 1 → s[i]? = some d → okAt i d = true := fun hkc i d hi hd => by
      by_cases hik : i = k
      · subst hik; rw [hc0] at hd; cases hd; exact hkc
      · exact hok i d (by omega) hd
    (refine C_region ?_
     <;> (refine W_lss rfl rfl (fun hc => ?_) (fun hc => ?_) <;> try (exfalso; omega))
     <;> refine W_nil ?_)
    repeat' first | refine nx ?_ | refine C_cond_t rfl ?_ | refine C_cond_f rfl ?_ | refine Q_block_on rfl ?_
    (refine C_region ?_
     <;> (first | refine M_int rfl ?_ | refine W_move ?_)
     <;> (refine M_assign ?_; (first | refine M_int rfl ?_ | refine W_move ?_))
     <;> refine W_nil ?_)
    repeat' first | refine nx ?_ | refine C_cond_t rfl ?_ | refine C_cond_f rfl ?_ | refine Q_block_on rfl ?_
    (refine C_region ?_
     <;> (first | refine M_str rfl ?_ | refine W_move ?_)
     <;> (first | refine M_int rfl ?_ | refine W_move ?_)
     <;> (first | refine W_sidx rfl rfl (by assumption) ?_ | refine W_sidx (j := 0) rfl rfl (by assumption) ?_)
     <;> (refine M_assign ?_; (first | refine M_int rfl ?_ | refine W_move ?_))
     <;> refine W_nil ?_)
    repeat' first | refine nx ?_ | refine C_cond_t rfl ?_ | refine C_cond_f rfl ?_ | refine Q_block_on rfl ?_
    by_cases hs : 97 ≤ c.toNat ∧ c.toNat ≤ 122
    · have hkc : okAt k c = true := by simp [okAt, isSmall, hs.1, hs.2]
      (refine C_region ?_
       <;> (first | refine M_int rfl ?_ | refine W_move ?_)
       <;> (refine W_leq rfl rfl (fun hc => ?_) (fun hc => ?_) <;> try (exfalso; omega))
       <;> (first | refine M_bool rfl ?_ | refine W_move ?_)
       <;> (first | refine W_no rfl ?_ | (refine W_yes rfl ?_; (first | refine M_int rfl ?_ | refine W_move ?_)))
       <;> (first | refine W_no rfl ?_ | (refine W_yes rfl ?_; (refine W_leq rfl rfl (fun hc => ?_) (fun hc => ?_) <;> try (exfalso; omega))))
       <;> ((first | refine M_pick_t rfl ?_ | refine M_pick_f rfl ?_); (first | refine M_bool rfl ?_ | refine W_move ?_))
       <;> (refine M_assign ?_; (first | refine M_bool rfl ?_ | refine W_move ?_))
       <;> refine W_nil ?_)
      repeat' first | refine nx ?_ | refine C_cond_t rfl ?_ | refine C_cond_f rfl ?_ | refine Q_block_on rfl ?_
      (refine C_region ?_
       <;> refine W_add rfl rfl (by first | exact inR_i64 (by omega) (by omega) | exact inR_u8 (by omega) (by omega) | exact inR_u16 (by omega) (by omega)) ?_
       <;> (first | refine M_int rfl ?_ | refine W_move ?_)
       <;> refine W_nil ?_)
      repeat' first | refine nx ?_ | refine C_cond_t rfl ?_ | refine C_cond_f rfl ?_ | refine Q_block_on rfl ?_
      refine ⟨k + 1, ⟨rfl, ⟨rfl, rfl, rfl, ?_, trivial⟩, ⟨by omega, step hkc, rfl⟩⟩, by omega⟩
      show Value.int .i64 ((k : Int) + 1) = _
      rw [Int.natCast_add]; rfl
    · have hns : isSmall c = false := by simp [isSmall]; omega
      by_cases hr : 0 < k ∧ ((48 ≤ c.toNat ∧ c.toNat ≤ 57) ∨ c.toNat = 95)
      · have hkc : okAt k c = true := by
          simp only [okAt, isDig, Bool.or_eq_true, Bool.and_eq_true, decide_eq_true_eq]
          exact .inr hr
        (refine C_region ?_
         <;> (first | refine M_int rfl ?_ | refine W_move ?_)
         <;> (refine W_leq rfl rfl (fun hc => ?_) (fun hc => ?_) <;> try (exfalso; omega))
         <;> (first | refine M_bool rfl ?_ | refine W_move ?_)
         <;> (first | refine W_no rfl ?_ | (refine W_yes rfl ?_; (first | refine M_int rfl ?_ | refine W_move ?_)))
         <;> (first | refine W_no rfl ?_ | (refine W_yes rfl ?_; (refine W_leq rfl rfl (fun hc => ?_) (fun hc => ?_) <;> try (exfalso; omega))))
         <;> ((first | refine M_pick_t rfl ?_ | refine M_pick_f rfl ?_); (first | refine M_bool rfl ?_ | refine W_move ?_))
         <;> (refine M_assign ?_; (first | refine M_bool rfl ?_ | refine W_move ?_))
         <;> refine W_nil ?_)
        all_goals
          repeat' first | refine nx ?_ | refine C_cond_t rfl ?_ | refine C_cond_f rfl ?_ | refine Q_block_on rfl ?_
          (refine C_region ?_
           <;> (first | refine M_int rfl ?_ | refine W_move ?_)
           <;> (refine W_gtr rfl rfl (fun hc => ?_) (fun hc => ?_) <;> try (exfalso; omega))
           <;> (first | refine M_bool rfl ?_ | refine W_move ?_)
           <;> (first | refine W_no rfl ?_ | (refine W_yes rfl ?_; (first | refine M_int rfl ?_ | refine W_move ?_)))
           <;> (first | refine W_no rfl ?_ | (refine W_yes rfl ?_; (refine W_leq rfl rfl (fun hc => ?_) (fun hc => ?_) <;> try (exfalso; omega))))
           <;> (first | refine W_no rfl ?_ | (refine W_yes rfl ?_; (first | refine M_bool rfl ?_ | refine W_move ?_)))
           <;> (first | refine W_no rfl ?_ | (refine W_yes rfl ?_; (first | refine M_int rfl ?_ | refine W_move ?_)))
           <;> (first | refine W_no rfl ?_ | (refine W_yes rfl ?_; (refine W_leq rfl rfl (fun hc => ?_) (fun hc => ?_) <;> try (exfalso; omega))))
           <;> (first | refine W_no rfl ?_ | (refine W_yes rfl ?_; ((first | refine M_pick_t rfl ?_ | refine M_pick_f rfl ?_); (first | refine M_bool rfl ?_ | refine W_move ?_))))
           <;> (first | refine W_no rfl ?_ | (refine W_yes rfl ?_; (first | refine M_bool rfl ?_ | refine W_move ?_)))
           <;> (first | refine W_no rfl ?_ | (refine W_yes rfl ?_; (first | refine M_int rfl ?_ | refine W_move ?_)))
           <;> (first | refine W_no rfl ?_ | (refine W_yes rfl ?_; (refine W_eql rfl rfl (fun hc => ?_) (fun hc => ?_) <;> try (exfalso; omega))))
           <;> (first | refine W_no rfl ?_ | (refine W_yes rfl ?_; ((first | refine M_pick_t rfl ?_ | refine M_pick_f rfl ?_); (first | refine M_bool rfl ?_ | refine W_move ?_))))
           <;> ((first | refine M_pick_t rfl ?_ | refine M_pick_f rfl ?_); (first | refine M_bool rfl ?_ | refine W_move ?_))
           <;> (refine M_assign ?_; (first | refine M_bool rfl ?_ | refine W_move ?_))
           <;> refine W_nil ?_)
          all_goals
            repeat' first | refine nx ?_ | refine C_cond_t rfl ?_ | refine C_cond_f rfl ?_ | refine Q_block_on rfl ?_
            (refine C_region ?_
             <;> refine W_add rfl rfl (by first | exact inR_i64 (by omega) (by omega) | exact inR_u8 (by omega) (by omega) | exact inR_u16 (by omega) (by omega)) ?_
             <;> (first | refine M_int rfl ?_ | refine W_move ?_)
             <;> refine W_nil ?_)
            repeat' first | refine nx ?_ | refine C_cond_t rfl ?_ | refine C_cond_f rfl ?_ | refine Q_block_on rfl ?_
            refine ⟨k + 1, ⟨rfl, ⟨rfl, rfl, rfl, ?_, trivial⟩, ⟨by omega, step hkc, rfl⟩⟩, by omega⟩
            show Value.int .i64 ((k : Int) + 1) = _
            rw [Int.natCast_add]; rfl
      · have hsh : shapeB s = false := by
          cases hsb : shapeB s with
          | false => rfl
          | true =>
            have := (shapeB_iff s (by omega)).1 hsb k c hc0
            simp only [okAt, hns, isDig, Bool.false_or, Bool.or_eq_true, Bool.and_eq_true, decide_eq_true_eq] at this
            exact absurd this hr
        (refine C_region ?_
         <;> (first | refine M_int rfl ?_ | refine W_move ?_)
         <;> (refine W_leq rfl rfl (fun hc => ?_) (fun hc => ?_) <;> try (exfalso; omega))
         <;> (first | refine M_bool rfl ?_ | refine W_move ?_)
         <;> (first | refine W_no rfl ?_ | (refine W_yes rfl ?_; (first | refine M_int rfl ?_ | refine W_move ?_)))
         <;> (first | refine W_no rfl ?_ | (refine W_yes rfl ?_; (refine W_leq rfl rfl (fun hc => ?_) (fun hc => ?_) <;> try (exfalso; omega))))
         <;> ((first | refine M_pick_t rfl ?_ | refine M_pick_f rfl ?_); (first | refine M_bool rfl ?_ | refine W_move ?_))
         <;> (refine M_assign ?_; (first | refine M_bool rfl ?_ | refine W_move ?_))
         <;> refine W_nil ?_)
        all_goals
          repeat' first | refine nx ?_ | refine C_cond_t rfl ?_ | refine C_cond_f rfl ?_ | refine Q_block_on rfl ?_
          (refine C_region ?_
           <;> (first | refine M_int rfl ?_ | refine W_move ?_)
           <;> (refine W_gtr rfl rfl (fun hc => ?_) (fun hc => ?_) <;> try (exfalso; omega))
           <;> (first | refine M_bool rfl ?_ | refine W_move ?_)
           <;> (first | refine W_no rfl ?_ | (refine W_yes rfl ?_; (first | refine M_int rfl ?_ | refine W_move ?_)))
           <;> (first | refine W_no rfl ?_ | (refine W_yes rfl ?_; (refine W_leq rfl rfl (fun hc => ?_) (fun hc => ?_) <;> try (exfalso; omega))))
           <;> (first | refine W_no rfl ?_ | (refine W_yes rfl ?_; (first | refine M_bool rfl ?_ | refine W_move ?_)))
           <;> (first | refine W_no rfl ?_ | (refine W_yes rfl ?_; (first | refine M_int rfl ?_ | refine W_move ?_)))
           <;> (first | refine W_no rfl ?_ | (refine W_yes rfl ?_; (refine W_leq rfl rfl (fun hc => ?_) (fun hc => ?_) <;> try (exfalso; omega))))
           <;> (first | refine W_no rfl ?_ | (refine W_yes rfl ?_; ((first | refine M_pick_t rfl ?_ | refine M_pick_f rfl ?_); (first | refine M_bool rfl ?_ | refine W_move ?_))))
           <;> (first | refine W_no rfl ?_ | (refine W_yes rfl ?_; (first | refine M_bool rfl ?_ | refine W_move ?_)))
           <;> (first | refine W_no rfl ?_ | (refine W_yes rfl ?_; (first | refine M_int rfl ?_ | refine W_move ?_)))
           <;> (first | refine W_no rfl ?_ | (refine W_yes rfl ?_; (refine W_eql rfl rfl (fun hc => ?_) (fun hc => ?_) <;> try (exfalso; omega))))
           <;> (first | refine W_no rfl ?_ | (refine W_yes rfl ?_; ((first | refine M_pick_t rfl ?_ | refine M_pick_f rfl ?_); (first | refine M_bool rfl ?_ | refine W_move ?_))))
           <;> ((first | refine M_pick_t rfl ?_ | refine M_pick_f rfl ?_); (first | refine M_bool rfl ?_ | refine W_move ?_))
           <;> (refine M_assign ?_; (first | refine M_bool rfl ?_ | refine W_move ?_))
           <;> refine W_nil ?_)
          all_goals
            repeat' first | refine nx ?_ | refine C_cond_t rfl ?_ | refine C_cond_f rfl ?_ | refine Q_block_on rfl ?_
            (refine C_region ?_
             <;> (refine M_assign ?_; (first | refine M_bool rfl ?_ | refine W_move ?_))
             <;> refine W_nil ?_)
            repeat' first | refine nx ?_ | refine C_cond_t rfl ?_ | refine C_cond_f rfl ?_ | refine Q_block_on rfl ?_
            (refine C_region ?_; refine W_load_agg (L := keyC) rfl rfl hG.keys ?_)
            ((first | refine M_int rfl ?_ | refine W_move ?_)
             <;> refine W_nil ?_)
            repeat' first | refine nx ?_ | refine C_cond_t rfl ?_ | refine C_cond_f rfl ?_ | refine Q_block_on rfl ?_
            refine C_loop (α := Nat) (fun k => [(0, strV s), (3, .bool false), (47, .agg keyC.toArray), (48, .int .i64 (k : Int))]) (fun k W => k ≤ 10 ∧ s ∉ keysL.take k ∧ W = w1) (fun k => 10 - k) 0 ⟨rfl, rfl, rfl, rfl, trivial⟩ ⟨by omega, by simp, rfl⟩ ?_
            rintro k w2 f2 ⟨hk, hn, rfl⟩
            repeat' first | refine nx ?_ | refine C_cond_t rfl ?_ | refine C_cond_f rfl ?_ | refine Q_block_on rfl ?_
            by_cases hlt : k < 10
            · obtain ⟨y, hy⟩ : ∃ y, keysL[k]? = some y := ⟨_, List.getElem?_eq_getElem (by show k < 10; exact hlt)⟩
              have hyc : keyC[k]? = some (strV y) := by unfold keyC; rw [List.getElem?_map, hy]; rfl
              have ht1 : keysL.take (k + 1) = keysL.take k ++ [y] := by rw [List.take_add_one, hy]; rfl
              (refine C_region ?_
               <;> (refine W_lss rfl rfl (fun hc => ?_) (fun hc => ?_) <;> try (exfalso; omega))
               <;> refine W_nil ?_)
              repeat' first | refine nx ?_ | refine C_cond_t rfl ?_ | refine C_cond_f rfl ?_ | refine Q_block_on rfl ?_
              (refine C_region ?_)
              -- at operation 0: <dst=(some 50) op=(index 103 (tmp 47) (tmp 48)) type=9 guard=none>
              refine W_vidx1 (L := keyC) rfl rfl (by omega) hyc ?_
              ((refine M_assign ?_; (first | refine M_str rfl ?_ | refine W_move ?_))
               <;> refine W_nil ?_)
              repeat' first | refine nx ?_ | refine C_cond_t rfl ?_ | refine C_cond_f rfl ?_ | refine Q_block_on rfl ?_
              by_cases hys : y = s
              · (refine C_region ?_
                 <;> (first | refine M_str rfl ?_ | refine W_move ?_)
                 <;> (first | refine M_str rfl ?_ | refine W_move ?_)
                 <;> refine W_seql rfl rfl (fun hc => ?_) (fun hc => ?_)
                 <;> refine W_nil ?_)
                case refine_2 => exact absurd hys (by assumption)
                repeat' first | refine nx ?_ | refine C_cond_t rfl ?_ | refine C_cond_f rfl ?_ | refine Q_block_on rfl ?_
                (refine C_region ?_
                 <;> (refine M_assign ?_; (first | refine M_bool rfl ?_ | refine W_move ?_))
                 <;> refine W_nil ?_)
                repeat' first | refine nx ?_ | refine C_cond_t rfl ?_ | refine C_cond_f rfl ?_ | refine Q_block_on rfl ?_
                exact fin_ret1 rfl ⟨by rw [nameB_eq, decide_eq_true (List.mem_of_getElem? (hys ▸ hy) : s ∈ keysL)]; simp [upd, Nat.beq], rfl⟩
              · (refine C_region ?_
                 <;> (first | refine M_str rfl ?_ | refine W_move ?_)
                 <;> (first | refine M_str rfl ?_ | refine W_move ?_)
                 <;> refine W_seql rfl rfl (fun hc => ?_) (fun hc => ?_)
                 <;> refine W_nil ?_)
                case refine_1 => exact absurd (by assumption) hys
                repeat' first | refine nx ?_ | refine C_cond_t rfl ?_ | refine C_cond_f rfl ?_ | refine Q_block_on rfl ?_
                (refine C_region ?_
                 <;> refine W_add rfl rfl (by first | exact inR_i64 (by omega) (by omega) | exact inR_u8 (by omega) (by omega) | exact inR_u16 (by omega) (by omega)) ?_
                 <;> (first | refine M_int rfl ?_ | refine W_move ?_)
                 <;> refine W_nil ?_)
                repeat' first | refine nx ?_ | refine C_cond_t rfl ?_ | refine C_cond_f rfl ?_ | refine Q_block_on rfl ?_
                refine ⟨k + 1, ⟨rfl, ⟨rfl, rfl, rfl, ?_, trivial⟩, ⟨by omega, by rw [ht1]; simp [hn]; exact fun e => hys e.symm, rfl⟩⟩, by omega⟩
                show Value.int .i64 ((k : Int) + 1) = _
                rw [Int.natCast_add]; rfl
            · obtain rfl : k = 10 := by omega
              (refine C_region ?_
               <;> (refine W_lss rfl rfl (fun hc => ?_) (fun hc => ?_) <;> try (exfalso; omega))
               <;> refine W_nil ?_)
              repeat' first | refine nx ?_ | refine C_cond_t rfl ?_ | refine C_cond_f rfl ?_ | refine Q_block_on rfl ?_
              (refine C_region ?_
               <;> (first | refine M_bool rfl ?_ | refine W_move ?_)
               <;> (refine M_assign ?_; (first | refine M_bool rfl ?_ | refine W_move ?_))
               <;> refine W_nil ?_)
              repeat' first | refine nx ?_ | refine C_cond_t rfl ?_ | refine C_cond_f rfl ?_ | refine Q_block_on rfl ?_
              have hn' : s ∉ keysL := hn
              exact fin_ret1 rfl ⟨by rw [nameB_eq, hsh, decide_eq_false hn', decide_eq_true (show 1 ≤ s.length by omega), decide_eq_true (show s.length ≤ 12 by omega)]; rfl, rfl⟩
  · obtain rfl : k = s.length := by omega
    have hsh : shapeB s = true := (shapeB_iff s (by omega)).2 fun i c hc => hok i c (List.getElem?_eq_some_iff.1 hc).1 hc
    (refine C_region ?_
     <;> (refine W_lss rfl rfl (fun hc => ?_) (fun hc => ?_) <;> try (exfalso; omega))
     <;> refine W_nil ?_)
    repeat' first | refine nx ?_ | refine C_cond_t rfl ?_ | refine C_cond_f rfl ?_ | refine Q_block_on rfl ?_
    (refine C_region ?_; refine W_load_agg (L := keyC) rfl rfl hG.keys ?_)
    ((first | refine M_int rfl ?_ | refine W_move ?_)
     <;> refine W_nil ?_)
    repeat' first | refine nx ?_ | refine C_cond_t rfl ?_ | refine C_cond_f rfl ?_ | refine Q_block_on rfl ?_
    refine C_loop (α := Nat) (fun k => [(0, strV s), (3, .bool true), (47, .agg keyC.toArray), (48, .int .i64 (k : Int))]) (fun k W => k ≤ 10 ∧ s ∉ keysL.take k ∧ W = w1) (fun k => 10 - k) 0 ⟨rfl, rfl, rfl, rfl, trivial⟩ ⟨by omega, by simp, rfl⟩ ?_
    rintro k w2 f2 ⟨hk, hn, rfl⟩
    repeat' first | refine nx ?_ | refine C_cond_t rfl ?_ | refine C_cond_f rfl ?_ | refine Q_block_on rfl ?_
    by_cases hlt : k < 10
    · obtain ⟨y, hy⟩ : ∃ y, keysL[k]? = some y := ⟨_, List.getElem?_eq_getElem (by show k < 10; exact hlt)⟩
      have hyc : keyC[k]? = some (strV y) := by unfold keyC; rw [List.getElem?_map, hy]; rfl
      have ht1 : keysL.take (k + 1) = keysL.take k ++ [y] := by rw [List.take_add_one, hy]; rfl
      (refine C_region ?_
       <;> (refine W_lss rfl rfl (fun hc => ?_) (fun hc => ?_) <;> try (exfalso; omega))
       <;> refine W_nil ?_)
      repeat' first | refine nx ?_ | refine C_cond_t rfl ?_ | refine C_cond_f rfl ?_ | refine Q_block_on rfl ?_
      (refine C_region ?_)
      -- at operation 0: <dst=(some 50) op=(index 103 (tmp 47) (tmp 48)) type=9 guard=none>
      refine W_vidx1 (L := keyC) rfl rfl (by omega) hyc ?_
      ((refine M_assign ?_; (first | refine M_str rfl ?_ | refine W_move ?_))
       <;> refine W_nil ?_)
      repeat' first | refine nx ?_ | refine C_cond_t rfl ?_ | refine C_cond_f rfl ?_ | refine Q_block_on rfl ?_
      by_cases hys : y = s
      · (refine C_region ?_
         <;> (first | refine M_str rfl ?_ | refine W_move ?_)
         <;> (first | refine M_str rfl ?_ | refine W_move ?_)
         <;> refine W_seql rfl rfl (fun hc => ?_) (fun hc => ?_)
         <;> refine W_nil ?_)
        case refine_2 => exact absurd hys (by assumption)
        repeat' first | refine nx ?_ | refine C_cond_t rfl ?_ | refine C_cond_f rfl ?_ | refine Q_block_on rfl ?_
        (refine C_region ?_
         <;> (refine M_assign ?_; (first | refine M_bool rfl ?_ | refine W_move ?_))
         <;> refine W_nil ?_)
        repeat' first | refine nx ?_ | refine C_cond_t rfl ?_ | refine C_cond_f rfl ?_ | refine Q_block_on rfl ?_
        exact fin_ret1 rfl ⟨by rw [nameB_eq, decide_eq_true (List.mem_of_getElem? (hys ▸ hy) : s ∈ keysL)]; simp [upd, Nat.beq], rfl⟩
      · (refine C_region ?_
         <;> (first | refine M_str rfl ?_ | refine W_move ?_)
         <;> (first | refine M_str rfl ?_ | refine W_move ?_)
         <;> refine W_seql rfl rfl (fun hc => ?_) (fun hc => ?_)
         <;> refine W_nil ?_)
        case refine_1 => exact absurd (by assumption) hys
        repeat' first | refine nx ?_ | refine C_cond_t rfl ?_ | refine C_cond_f rfl ?_ | refine Q_block_on rfl ?_
        (refine C_region ?_
         <;> refine W_add rfl rfl (by first | exact inR_i64 (by omega) (by omega) | exact inR_u8 (by omega) (by omega) | exact inR_u16 (by omega) (by omega)) ?_
         <;> (first | refine M_int rfl ?_ | refine W_move ?_)
         <;> refine W_nil ?_)
        repeat' first | refine nx ?_ | refine C_cond_t rfl ?_ | refine C_cond_f rfl ?_ | refine Q_block_on rfl ?_
        refine ⟨k + 1, ⟨rfl, ⟨rfl, rfl, rfl, ?_, trivial⟩, ⟨by omega, by rw [ht1]; simp [hn]; exact fun e => hys e.symm, rfl⟩⟩, by omega⟩
        show Value.int .i64 ((k : Int) + 1) = _
        rw [Int.natCast_add]; rfl
    · obtain rfl : k = 10 := by omega
      (refine C_region ?_
       <;> (refine W_lss rfl rfl (fun hc => ?_) (fun hc => ?_) <;> try (exfalso; omega))
       <;> refine W_nil ?_)
      repeat' first | refine nx ?_ | refine C_cond_t rfl ?_ | refine C_cond_f rfl ?_ | refine Q_block_on rfl ?_
      (refine C_region ?_
       <;> (first | refine M_bool rfl ?_ | refine W_move ?_)
       <;> (refine M_assign ?_; (first | refine M_bool rfl ?_ | refine W_move ?_))
       <;> refine W_nil ?_)
      repeat' first | refine nx ?_ | refine C_cond_t rfl ?_ | refine C_cond_f rfl ?_ | refine Q_block_on rfl ?_
      have hn' : s ∉ keysL := hn
      exact fin_ret1 rfl ⟨by rw [nameB_eq, hsh, decide_eq_false hn', decide_eq_true (show 1 ≤ s.length by omega), decide_eq_true (show s.length ≤ 12 by omega)]; rfl, rfl⟩
end Go.Proofs.YtmnhnbpnjepkbaaGreatDoor

namespace Go.Proofs.YtmnhnbpnjepkbaaGreatDoor
open Go.RowKit
attribute [local semireducible] WC WOps thenQ blockQ scopeQ finQ finD stepP

variable {P : Program} {all : Array Oper} {Z : Fr → DS → List PanicEntry → World → Prop} {K : Fr → DS → World → Prop} {rest : List Oper} {f : Fr} {ds : DS} {w : World}
  {d : Nat} {ty : TypeId} {pos : String} {af : Array Edge}

/-- []byte(s) -/
theorem W_strb {src dst e size bytes : Nat} {z : Value} {x : Operand} {l : List UInt8} [hs : SlT P dst e size bytes z] [he : IntT P e .u8] [hd : StrT P src] (hx : ev f x = strV l)
    (h : ∀ w' cap, Ext w w' → w'.heap.size = w.heap.size + 1 → Cells w' w.heap.size 0 (cells8 l) → WOps P all Z K rest (upd f d (.slice (some ⟨w.heap.size, 0, none⟩) l.length cap)) ds w') :
    WOps P all Z K (⟨some d, .convert src dst x, ty, pos, af, none⟩ :: rest) f ds w := by
  have hr := Lib.run_convert_string_bytes (P := P) w src dst e ⟨l.toArray⟩ hd.out hs.und he.out
  have hn : (⟨l.toArray⟩ : ByteArray).size = l.length := by simp [ByteArray.size]
  rw [hn] at hr
  refine W_val (v := .slice (some ⟨w.heap.size, 0, none⟩) l.length (grownCap w l.length 0 e)) (w' := Lib.bytesWorld w e ⟨l.toArray⟩) rfl ?_ (h _ _ ⟨rfl, rfl, rfl, ?_, fun b hb _ => Lib.bytesWorld_at_old w e _ b hb⟩ (Lib.bytesWorld_size w e _) ?_)
  · simp only [execOp, hx]
    simp [hr]
  · rw [Lib.bytesWorld_size]; omega
  · intro i u hu
    have hi : i < l.length := by
      have := (List.getElem?_eq_some_iff.1 hu).1
      simpa [cells8] using this
    have := Lib.bytesWorld_cell w e ⟨l.toArray⟩ i (by rw [hn]; exact hi)
    rw [Nat.zero_add, this]
    rw [cells8_get hi] at hu
    rw [← hu]
    simp [enc8, List.getD_eq_getElem?_getD]

class IfT (P : Program) (T : TypeId) : Prop where
  out : ∃ ms, P.underlying T = some (.interface ms)
theorem W_nilneq {xt yt : TypeId} {x : Operand} [hT : IfT P xt] (hx : ev f x = .nilIface) (h : WOps P all Z K rest (upd f d (.bool false)) ds w) :
    WOps P all Z K (⟨some d, .binOp .neq xt x (.const .nilIface) yt, ty, pos, af, none⟩ :: rest) f ds w := by
  obtain ⟨ms, h1⟩ := hT.out
  refine W_val rfl ?_ h
  have hq : (Op.equalIn Op.maxDepth xt .nilIface .nilIface).run P w = .ok true w := by
    rw [show Op.maxDepth = 9999 + 1 from rfl]
    generalize 9999 = n
    unfold Op.equalIn
    simp [run_underlying h1]
  have hy : ev f (.const .nilIface) = .nilIface := rfl
  simp [execOp, hx, hy, eqGuard, binOp, Op.equal, hq]
end Go.Proofs.YtmnhnbpnjepkbaaGreatDoor

namespace Go.Proofs.YtmnhnbpnjepkbaaGreatDoor
open Go.RowKit
set_option linter.unusedVariables false

instance : IfT Tryz.prog 136 := ⟨_, Tryz.underlying136⟩

def topN : Nat → Int
  | 0 => 0
  | k + 1 => 10 * topN k + 9
theorem topN_le {k : Nat} (h : k ≤ 4) : topN k ≤ 9999 := by
  match k, h with
  | 0, _ => decide
  | 1, _ => decide
  | 2, _ => decide
  | 3, _ => decide
  | 4, _ => decide
  | k + 5, h => omega
theorem numOf_snoc (l : List UInt8) (c : UInt8) : numOf (l ++ [c]) = 10 * numOf l + ((c.toNat : Int) - 48) := by simp [numOf]
theorem numOf_le : ∀ (k : Nat) (l : List UInt8), l.length = k → (∀ c ∈ l, isDig c = true) → 0 ≤ numOf l ∧ numOf l ≤ topN k
  | 0, l, hl, _ => by
    obtain rfl := List.eq_nil_of_length_eq_zero hl
    exact ⟨by decide, by decide⟩
  | k + 1, l, hl, hd => by
    have hne : l ≠ [] := fun e => by subst e; simp at hl
    have e := List.dropLast_concat_getLast hne
    have ih := numOf_le k l.dropLast (by simp [hl]) (fun c hc => hd c (List.dropLast_subset _ hc))
    have hc := hd _ (List.getLast_mem hne)
    generalize l.getLast hne = c at hc e
    rw [← e, numOf_snoc]
    simp [isDig] at hc
    unfold topN
    omega

theorem atoi_ok (s : List UInt8) (w : World) (h1 : 1 ≤ s.length) (h4 : s.length ≤ 4) (hd : ∀ c ∈ s, isDig c = true) : Fn Tryz.prog 105 [strV s] w fun v w' => v = .tuple #[.int .i64 (numOf s), .nilIface] ∧ Ext w w' := by
  have hc0 : s[0]? = some s[0] := List.getElem?_eq_getElem (by omega)
  have hd0 := hd s[0] (List.getElem_mem _)
  generalize s[0] = c0 at hc0 hd0
  simp [isDig] at hd0
  refine fn_of_wc Tryz.func105 rfl Tryz.ntmps105 (Nat.le_of_ble_eq_true rfl) (by kernel_rfl) ?_
  repeat' first | refine nx ?_ | refine C_cond_t rfl ?_ | refine C_cond_f rfl ?_ | refine Q_block_on rfl ?_
  (refine C_region ?_
   <;> (refine M_assign ?_; (first | refine M_int rfl ?_ | refine W_move ?_))
   <;> (refine M_assign ?_; refine W_move ?_)
   <;> refine W_nil ?_)
  repeat' first | refine nx ?_ | refine C_cond_t rfl ?_ | refine C_cond_f rfl ?_ | refine Q_block_on rfl ?_
  (refine C_region ?_
   <;> (first | refine M_str rfl ?_ | refine W_move ?_)
   <;> refine W_slen rfl ?_
   <;> (refine M_assign ?_; (first | refine M_int rfl ?_ | refine W_move ?_))
   <;> refine W_nil ?_)
  repeat' first | refine nx ?_ | refine C_cond_t rfl ?_ | refine C_cond_f rfl ?_ | refine Q_block_on rfl ?_
  (refine C_region ?_
   <;> (first | refine M_bool rfl ?_ | refine W_move ?_)
   <;> (first | refine W_no rfl ?_ | (refine W_yes rfl ?_; (first | refine M_int rfl ?_ | refine W_move ?_)))
   <;> (first | refine W_no rfl ?_ | (refine W_yes rfl ?_; (refine W_lss rfl rfl (fun hc => ?_) (fun hc => ?_) <;> try (exfalso; omega))))
   <;> (first | refine W_no rfl ?_ | (refine W_yes rfl ?_; (first | refine M_bool rfl ?_ | refine W_move ?_)))
   <;> (first | refine W_no rfl ?_ | (refine W_yes rfl ?_; (first | refine M_int rfl ?_ | refine W_move ?_)))
   <;> (first | refine W_no rfl ?_ | (refine W_yes rfl ?_; (refine W_lss rfl rfl (fun hc => ?_) (fun hc => ?_) <;> try (exfalso; omega))))
   <;> (first | refine W_no rfl ?_ | (refine W_yes rfl ?_; ((first | refine M_pick_t rfl ?_ | refine M_pick_f rfl ?_); (first | refine M_bool rfl ?_ | refine W_move ?_))))
   <;> ((first | refine M_pick_t rfl ?_ | refine M_pick_f rfl ?_); (first | refine M_bool rfl ?_ | refine W_move ?_))
   <;> (first | refine M_bool rfl ?_ | refine W_move ?_)
   <;> (first | refine W_no rfl ?_ | (refine W_yes rfl ?_; (first | refine M_bool rfl ?_ | refine W_move ?_)))
   <;> (first | refine W_no rfl ?_ | (refine W_yes rfl ?_; (first | refine M_int rfl ?_ | refine W_move ?_)))
   <;> (first | refine W_no rfl ?_ | (refine W_yes rfl ?_; (refine W_lss rfl rfl (fun hc => ?_) (fun hc => ?_) <;> try (exfalso; omega))))
   <;> (first | refine W_no rfl ?_ | (refine W_yes rfl ?_; (first | refine M_bool rfl ?_ | refine W_move ?_)))
   <;> (first | refine W_no rfl ?_ | (refine W_yes rfl ?_; (first | refine M_int rfl ?_ | refine W_move ?_)))
   <;> (first | refine W_no rfl ?_ | (refine W_yes rfl ?_; (refine W_lss rfl rfl (fun hc => ?_) (fun hc => ?_) <;> try (exfalso; omega))))
   <;> (first | refine W_no rfl ?_ | (refine W_yes rfl ?_; ((first | refine M_pick_t rfl ?_ | refine M_pick_f rfl ?_); (first | refine M_bool rfl ?_ | refine W_move ?_))))
   <;> (first | refine W_no rfl ?_ | (refine W_yes rfl ?_; ((first | refine M_pick_t rfl ?_ | refine M_pick_f rfl ?_); (first | refine M_bool rfl ?_ | refine W_move ?_))))
   <;> ((first | refine M_pick_t rfl ?_ | refine M_pick_f rfl ?_); (first | refine M_bool rfl ?_ | refine W_move ?_))
   <;> refine W_nil ?_)
  repeat' first | refine nx ?_ | refine C_cond_t rfl ?_ | refine C_cond_f rfl ?_ | refine Q_block_on rfl ?_
  (refine C_region ?_
   <;> (first | refine M_str rfl ?_ | refine W_move ?_)
   <;> (refine M_assign ?_; (first | refine M_str rfl ?_ | refine W_move ?_))
   <;> refine W_nil ?_)
  repeat' first | refine nx ?_ | refine C_cond_t rfl ?_ | refine C_cond_f rfl ?_ | refine Q_block_on rfl ?_
  (refine C_region ?_
   <;> (first | refine M_str rfl ?_ | refine W_move ?_))
  refine W_sidx (j := 0) rfl rfl hc0 ?_
  ((refine W_eql rfl rfl (fun hc => ?_) (fun hc => ?_) <;> try (exfalso; omega))
   <;> (first | refine M_bool rfl ?_ | refine W_move ?_)
   <;> (first | refine W_no rfl ?_ | (refine W_yes rfl ?_; (first | refine M_str rfl ?_ | refine W_move ?_))))
  (refine W_yes rfl ?_; refine W_sidx (j := 0) rfl rfl hc0 ?_)
  ((first | refine W_no rfl ?_ | (refine W_yes rfl ?_; (refine W_eql rfl rfl (fun hc => ?_) (fun hc => ?_) <;> try (exfalso; omega))))
   <;> ((first | refine M_pick_t rfl ?_ | refine M_pick_f rfl ?_); (first | refine M_bool rfl ?_ | refine W_move ?_))
   <;> refine W_nil ?_)
  repeat' first | refine nx ?_ | refine C_cond_t rfl ?_ | refine C_cond_f rfl ?_ | refine Q_block_on rfl ?_
  (refine C_region ?_
   <;> (refine M_assign ?_; (first | refine M_int rfl ?_ | refine W_move ?_))
   <;> refine W_nil ?_)
  repeat' first | refine nx ?_ | refine C_cond_t rfl ?_ | refine C_cond_f rfl ?_ | refine Q_block_on rfl ?_
  (refine C_region ?_
   <;> (first | refine M_str rfl ?_ | refine W_move ?_))
  -- at operation 1: <dst=(some 47) op=(convert 9 22 (tmp 46)) type=22 guard=none>
  refine W_strb rfl (fun w1 cap k1 z1 b1 => ?_)
  (refine W_len rfl ?_
   <;> (first | refine M_int rfl ?_ | refine W_move ?_)
   <;> refine W_nil ?_)
  repeat' first | refine nx ?_ | refine C_cond_t rfl ?_ | refine C_cond_f rfl ?_ | refine Q_block_on rfl ?_
  refine C_loop (α := Nat) (fun k => [(5, strV s), (6, .int .i64 (numOf (s.take k))), (47, .slice (some ⟨w.heap.size, 0, none⟩) s.length cap), (48, .int .i64 (s.length : Int)), (49, .int .i64 (k : Int))]) (fun k w2 => k ≤ s.length ∧ w2 = w1) (fun k => s.length - k) 0 ⟨rfl, rfl, rfl, rfl, rfl, trivial⟩ ⟨by omega, rfl⟩ ?_
  rintro k w2 f2 ⟨hk, rfl⟩
  repeat' first | refine nx ?_ | refine C_cond_t rfl ?_ | refine C_cond_f rfl ?_ | refine Q_block_on rfl ?_
  by_cases hlt : k < s.length
  · have hck : s[k]? = some s[k] := List.getElem?_eq_getElem hlt
    have hdk := hd s[k] (List.getElem_mem _)
    generalize s[k] = c at hck hdk
    simp [isDig] at hdk
    have hb : w2.cell? ⟨w.heap.size, 0 + k, none⟩ = some (.int .u8 (c.toNat : Int)) := b1 k _ (by simp [cells8, hck, enc8])
    have et : s.take (k + 1) = s.take k ++ [c] := by rw [List.take_add_one, hck]; rfl
    have hn := numOf_le k (s.take k) (by simp; omega) (fun c hc => hd c (List.take_subset _ _ hc))
    have hk4 := topN_le (k := k) (by omega)
    (refine C_region ?_
     <;> (refine W_lss rfl rfl (fun hc => ?_) (fun hc => ?_) <;> try (exfalso; omega))
     <;> refine W_nil ?_)
    repeat' first | refine nx ?_ | refine C_cond_t rfl ?_ | refine C_cond_f rfl ?_ | refine Q_block_on rfl ?_
    (refine C_region ?_
     <;> (first | refine W_idx1 rfl rfl rfl (by omega) ?_ | refine W_idx rfl rfl rfl (by omega) ?_ | refine W_indexAddr rfl rfl (by omega) (by omega) ?_)
     <;> (first | refine W_load rfl (Blk.cell (by assumption) (by rfl)) ?_ | refine W_load rfl (by assumption) ?_)
     <;> (refine M_assign ?_; (first | refine M_int rfl ?_ | refine W_move ?_))
     <;> refine W_nil ?_)
    repeat' first | refine nx ?_ | refine C_cond_t rfl ?_ | refine C_cond_f rfl ?_ | refine Q_block_on rfl ?_
    (refine C_region ?_
     <;> (first | refine M_int rfl ?_ | refine W_move ?_)
     <;> refine W_sub rfl rfl (by first | exact inR_i64 (by omega) (by omega) | exact inR_u8 (by omega) (by omega) | exact inR_u16 (by omega) (by omega)) ?_
     <;> (refine M_assign ?_; (first | refine M_int rfl ?_ | refine W_move ?_))
     <;> refine W_nil ?_)
    repeat' first | refine nx ?_ | refine C_cond_t rfl ?_ | refine C_cond_f rfl ?_ | refine Q_block_on rfl ?_
    (refine C_region ?_
     <;> (first | refine M_int rfl ?_ | refine W_move ?_)
     <;> (refine W_gtr rfl rfl (fun hc => ?_) (fun hc => ?_) <;> try (exfalso; omega))
     <;> refine W_nil ?_)
    repeat' first | refine nx ?_ | refine C_cond_t rfl ?_ | refine C_cond_f rfl ?_ | refine Q_block_on rfl ?_
    (refine C_region ?_
     <;> (first | refine M_int rfl ?_ | refine W_move ?_)
     <;> refine W_mul rfl rfl (by first | exact inR_i64 (by omega) (by omega) | exact inR_u8 (by omega) (by omega) | exact inR_u16 (by omega) (by omega)) ?_
     <;> (first | refine M_int rfl ?_ | refine W_move ?_)
     <;> refine W_conv rfl (by first | exact inR_i64 (by omega) (by omega) | exact inR_u8 (by omega) (by omega) | exact inR_u16 (by omega) (by omega)) ?_
     <;> refine W_add rfl rfl (by first | exact inR_i64 (by omega) (by omega) | exact inR_u8 (by omega) (by omega) | exact inR_u16 (by omega) (by omega)) ?_
     <;> (refine M_assign ?_; (first | refine M_int rfl ?_ | refine W_move ?_))
     <;> refine W_nil ?_)
    repeat' first | refine nx ?_ | refine C_cond_t rfl ?_ | refine C_cond_f rfl ?_ | refine Q_block_on rfl ?_
    (refine C_region ?_
     <;> refine W_add rfl rfl (by first | exact inR_i64 (by omega) (by omega) | exact inR_u8 (by omega) (by omega) | exact inR_u16 (by omega) (by omega)) ?_
     <;> (first | refine M_int rfl ?_ | refine W_move ?_)
     <;> refine W_nil ?_)
    repeat' first | refine nx ?_ | refine C_cond_t rfl ?_ | refine C_cond_f rfl ?_ | refine Q_block_on rfl ?_
    refine ⟨k + 1, ⟨rfl, ⟨rfl, ?_, rfl, rfl, ?_, trivial⟩, ⟨by omega, rfl⟩⟩, by omega⟩
    · rw [et, numOf_snoc, Int.mul_comm 10]; rfl
    · show Value.int .i64 ((k : Int) + 1) = _
      rw [Int.natCast_add]; rfl
  · obtain rfl : k = s.length := by omega
    (refine C_region ?_
     <;> (refine W_lss rfl rfl (fun hc => ?_) (fun hc => ?_) <;> try (exfalso; omega))
     <;> refine W_nil ?_)
    repeat' first | refine nx ?_ | refine C_cond_t rfl ?_ | refine C_cond_f rfl ?_ | refine Q_block_on rfl ?_
    (refine C_region ?_
     <;> (first | refine M_str rfl ?_ | refine W_move ?_))
    refine W_sidx (j := 0) rfl rfl hc0 ?_
    ((refine W_eql rfl rfl (fun hc => ?_) (fun hc => ?_) <;> try (exfalso; omega))
     <;> refine W_nil ?_)
    repeat' first | refine nx ?_ | refine C_cond_t rfl ?_ | refine C_cond_f rfl ?_ | refine Q_block_on rfl ?_
    (refine C_region ?_
     <;> (first | refine M_int rfl ?_ | refine W_move ?_)
     <;> (refine M_assign ?_; (first | refine M_int rfl ?_ | refine W_move ?_))
     <;> (refine M_assign ?_; refine W_move ?_)
     <;> refine W_nil ?_)
    repeat' first | refine nx ?_ | refine C_cond_t rfl ?_ | refine C_cond_f rfl ?_ | refine Q_block_on rfl ?_
    exact fin_ret2 rfl ⟨by rw [List.take_length]; rfl, k1⟩
theorem Atoi_ok (s : List UInt8) (w : World) (h1 : 1 ≤ s.length) (h4 : s.length ≤ 4) (hd : ∀ c ∈ s, isDig c = true) : Fn Tryz.prog 100 [strV s] w fun v w' => v = .tuple #[.int .i64 (numOf s), .nilIface] ∧ Ext w w' := by
  refine fn_of_wc Tryz.func100 rfl Tryz.ntmps100 (Nat.le_of_ble_eq_true rfl) (by kernel_rfl) ?_
  repeat' first | refine nx ?_ | refine C_cond_t rfl ?_ | refine C_cond_f rfl ?_ | refine Q_block_on rfl ?_
  (refine C_region ?_
   <;> (refine M_assign ?_; (first | refine M_int rfl ?_ | refine W_move ?_))
   <;> (refine M_assign ?_; refine W_move ?_)
   <;> refine W_nil ?_)
  repeat' first | refine nx ?_ | refine C_cond_t rfl ?_ | refine C_cond_f rfl ?_ | refine Q_block_on rfl ?_
  (refine C_region ?_
   <;> (first | refine M_str rfl ?_ | refine W_move ?_))
  -- at operation 1: <dst=(some 8) op=(call <callee=(value (func 105)) args=[(tmp 7)] argTypes=[9]>) type=137 guard=none>
  refine W_call (atoi_ok s w h1 h4 hd) rfl ?_
  rintro v w1 ⟨rfl, k1⟩
  ((first | refine M_tuple rfl ?_ | refine W_move ?_)
   <;> refine W_extract rfl rfl ?_
   <;> refine W_extract rfl rfl ?_
   <;> (refine M_assign ?_; (first | refine M_int rfl ?_ | refine W_move ?_))
   <;> (refine M_assign ?_; refine W_move ?_)
   <;> refine W_nil ?_)
  repeat' first | refine nx ?_ | refine C_cond_t rfl ?_ | refine C_cond_f rfl ?_ | refine Q_block_on rfl ?_
  (refine C_region ?_
   <;> refine W_move ?_)
  -- at operation 1: <dst=(some 12) op=(binOp neq 136 (tmp 11) (const nilIface) 136) type=4 guard=none>
  refine W_nilneq rfl ?_
  refine W_nil ?_
  repeat' first | refine nx ?_ | refine C_cond_t rfl ?_ | refine C_cond_f rfl ?_ | refine Q_block_on rfl ?_
  (refine C_region ?_
   <;> (first | refine M_int rfl ?_ | refine W_move ?_)
   <;> (refine M_assign ?_; (first | refine M_int rfl ?_ | refine W_move ?_))
   <;> (refine M_assign ?_; refine W_move ?_)
   <;> refine W_nil ?_)
  repeat' first | refine nx ?_ | refine C_cond_t rfl ?_ | refine C_cond_f rfl ?_ | refine Q_block_on rfl ?_
  exact fin_ret2 rfl ⟨rfl, k1⟩
end Go.Proofs.YtmnhnbpnjepkbaaGreatDoor

namespace Go.Proofs.YtmnhnbpnjepkbaaGreatDoor
open Go.RowKit
set_option linter.unusedVariables false

theorem run_accepts_t {t : List UInt8} {ts : List Tok} (h : seesB t (ts.head?.map bare) = true) : Run (accepts t) ts (.ok (true, ts.tail)) := by
  refine Run.look ?_
  rw [if_pos h]; exact Run.next (Run.ret _ _)
theorem run_accepts_f {t : List UInt8} {ts : List Tok} (h : seesB t (ts.head?.map bare) = false) : Run (accepts t) ts (.ok (false, ts)) := by
  refine Run.look ?_
  rw [h]; exact Run.ret _ _
theorem run_expect_t {t : List UInt8} {ts : List Tok} (h : seesB t (ts.head?.map bare) = true) : Run (expect t) ts (.ok ((), ts.tail)) := by
  refine Run.look ?_
  rw [if_pos h]; exact Run.next (Run.ret _ _)
theorem run_expect_f {t : List UInt8} {ts : List Tok} (h : seesB t (ts.head?.map bare) = false) : Run (expect t) ts (.error ts) := by
  refine Run.look ?_
  rw [h]; exact Run.fail _


theorem accepts_ok (E : Env) (w : World) (ts : List Tok) (t : List UInt8) (h : PSt w E ts) : Fn Tryz.prog 64 [pt E.s, strV t] w (fun v w' => Keep [E.s] w w' ∧ ∃ b ts', v = .bool b ∧ Run (accepts t) ts (.ok (b, ts')) ∧ PSt w' E ts') := by
  obtain ⟨a, c, hb, hs⟩ := h.blk
  refine fn_of_wc Tryz.func64 rfl Tryz.ntmps64 (Nat.le_of_ble_eq_true rfl) (by kernel_rfl) ?_
  repeat' first | refine nx ?_ | refine C_cond_t rfl ?_ | refine C_cond_f rfl ?_ | refine Q_block_on rfl ?_
  (refine C_region ?_
   <;> (refine M_assign ?_; (first | refine M_bool rfl ?_ | refine W_move ?_))
   <;> refine W_nil ?_)
  repeat' first | refine nx ?_ | refine C_cond_t rfl ?_ | refine C_cond_f rfl ?_ | refine Q_block_on rfl ?_
  (refine C_region ?_
   <;> (first | refine M_ptr rfl ?_ | refine W_move ?_)
   <;> (first | refine M_str rfl ?_ | refine W_move ?_))
  -- at operation 2: <dst=(some 7) op=(call <callee=(value (func 67)) args=[(tmp 5), (tmp 6)] argTypes=[88, 9]>) type=4 guard=none>
  refine W_call (sees_ok E w ts t h) rfl ?_
  rintro v w1 ⟨rfl, rfl⟩
  (refine W_not rfl ?_
   <;> refine W_nil ?_)
  cases hse : seesB t (ts.head?.map bare) with
  | false =>
    repeat' first | refine nx ?_ | refine C_cond_t rfl ?_ | refine C_cond_f rfl ?_ | refine Q_block_on rfl ?_
    (refine C_region ?_
     <;> (refine M_assign ?_; (first | refine M_bool rfl ?_ | refine W_move ?_))
     <;> refine W_nil ?_)
    repeat' first | refine nx ?_ | refine C_cond_t rfl ?_ | refine C_cond_f rfl ?_ | refine Q_block_on rfl ?_
    exact fin_ret1 rfl ⟨Keep.refl _ _, false, ts, rfl, run_accepts_f hse, h⟩
  | true =>
    cases ts with
    | nil => simp [seesB] at hse
    | cons x l =>
      have hl : (x :: l).length = l.length + 1 := rfl
      obtain ⟨b, o, rfl, h1c, _, hs1⟩ := PSt.tok hs
      repeat' first | refine nx ?_ | refine C_cond_t rfl ?_ | refine C_cond_f rfl ?_ | refine Q_block_on rfl ?_
      (refine C_region ?_
       <;> (first | refine M_ptr rfl ?_ | refine W_move ?_)
       <;> (first | refine M_ptr rfl ?_ | refine W_move ?_)
       <;> refine W_nilCheck rfl ?_
       <;> refine W_fieldAddr rfl ?_
       <;> (first | refine W_load rfl (Blk.cell (by assumption) (by rfl)) ?_ | refine W_load rfl (by assumption) ?_)
       <;> refine W_slice_l rfl rfl (by omega) (by omega) ?_
       <;> refine W_nilCheck rfl ?_
       <;> refine W_fieldAddr rfl ?_)
      -- at operation 8: <dst=none op=(store 24 (tmp 16) (tmp 14)) type=0 guard=none>
      refine W_store rfl rfl rfl hb (by simp) (fun w2 p2 => ?_)
      have q2 := h.taken hs1 p2
      refine W_nil ?_
      repeat' first | refine nx ?_ | refine C_cond_t rfl ?_ | refine C_cond_f rfl ?_ | refine Q_block_on rfl ?_
      (refine C_region ?_
       <;> (refine M_assign ?_; (first | refine M_bool rfl ?_ | refine W_move ?_))
       <;> refine W_nil ?_)
      repeat' first | refine nx ?_ | refine C_cond_t rfl ?_ | refine C_cond_f rfl ?_ | refine Q_block_on rfl ?_
      exact fin_ret1 rfl ⟨p2.keep, true, l, rfl, run_accepts_t hse, q2⟩

theorem expect_ok (E : Env) (w : World) (ts : List Tok) (t : List UInt8) (h : PSt w E ts) : PDo E 75 [pt E.s, strV t] w (expect t) ts (fun _ v _ => v = .tuple #[]) := by
  unfold PDo
  refine fnP_of_wc Tryz.func75 rfl Tryz.ntmps75 (Nat.le_of_ble_eq_true rfl) (by kernel_rfl) ?_
  repeat' first | refine nx ?_ | refine C_cond_t rfl ?_ | refine C_cond_f rfl ?_ | refine Q_block_on rfl ?_
  (refine C_region ?_
   <;> (first | refine M_ptr rfl ?_ | refine W_move ?_)
   <;> (first | refine M_str rfl ?_ | refine W_move ?_))
  -- at operation 2: <dst=(some 6) op=(call <callee=(value (func 64)) args=[(tmp 4), (tmp 5)] argTypes=[88, 9]>) type=4 guard=none>
  refine W_call (accepts_ok E w ts t h) rfl ?_
  rintro v w1 ⟨k1, b, ts', rfl, hr, q1⟩
  cases hse : seesB t (ts.head?.map bare) with
  | false =>
    have e := hr.det (run_accepts_f hse)
    cases e
    (refine W_not rfl ?_
     <;> refine W_nil ?_)
    repeat' first | refine nx ?_ | refine C_cond_t rfl ?_ | refine C_cond_f rfl ?_ | refine Q_block_on rfl ?_
    (refine C_region ?_
     <;> (first | refine M_ptr rfl ?_ | refine W_move ?_))
    -- at operation 1: <dst=(some 9) op=(call <callee=(value (func 62)) args=[(tmp 8)] argTypes=[88]>) type=0 guard=none>
    refine W_callP (wrong_ok E w1 ts q1) rfl (R := fun _ _ => False) ?_ ?_
    · rintro v w2 hh; exact hh.elim
    · rintro ch w2 ⟨rfl, rfl⟩
      repeat' first | refine nx ?_ | refine C_cond_t rfl ?_ | refine C_cond_f rfl ?_ | refine Q_block_on rfl ?_
      exact fin_pan ⟨k1, ts, run_expect_f hse, rfl⟩
  | true =>
    have e := hr.det (run_accepts_t hse)
    cases e
    (refine W_not rfl ?_
     <;> refine W_nil ?_)
    repeat' first | refine nx ?_ | refine C_cond_t rfl ?_ | refine C_cond_f rfl ?_ | refine Q_block_on rfl ?_
    exact fin_end0 rfl ⟨k1, (), ts.tail, run_expect_t hse, q1, rfl⟩

theorem pname_ok (E : Env) (w : World) (ts : List Tok) (h : PSt w E ts) (hG : GK w) : PDo E 74 [pt E.s] w nameG ts (fun _ v s => v = strV s ∧ nameB s = true) := by
  obtain ⟨a, c, hb, hs⟩ := h.blk
  unfold PDo
  refine fnP_of_wc Tryz.func74 rfl Tryz.ntmps74 (Nat.le_of_ble_eq_true rfl) (by kernel_rfl) ?_
  repeat' first | refine nx ?_ | refine C_cond_t rfl ?_ | refine C_cond_f rfl ?_ | refine Q_block_on rfl ?_
  (refine C_region ?_
   <;> (refine M_assign ?_; (first | refine M_str rfl ?_ | refine W_move ?_))
   <;> refine W_nil ?_)
  repeat' first | refine nx ?_ | refine C_cond_t rfl ?_ | refine C_cond_f rfl ?_ | refine Q_block_on rfl ?_
  cases ts with
  | nil =>
    have hl : ([] : List Tok).length = 0 := rfl
    (refine C_region ?_
     <;> (first | refine M_ptr rfl ?_ | refine W_move ?_)
     <;> refine W_nilCheck rfl ?_
     <;> refine W_fieldAddr rfl ?_
     <;> (first | refine W_load rfl (Blk.cell (by assumption) (by rfl)) ?_ | refine W_load rfl (by assumption) ?_)
     <;> refine W_len rfl ?_
     <;> (refine W_eql rfl rfl (fun hc => ?_) (fun hc => ?_) <;> try (exfalso; omega))
     <;> (first | refine M_bool rfl ?_ | refine W_move ?_)
     <;> (first | refine W_no rfl ?_ | (refine W_yes rfl ?_; (first | refine M_ptr rfl ?_ | refine W_move ?_)))
     <;> (first | refine W_no rfl ?_ | (refine W_yes rfl ?_; refine W_nilCheck rfl ?_))
     <;> (first | refine W_no rfl ?_ | (refine W_yes rfl ?_; refine W_fieldAddr rfl ?_))
     <;> (first | refine W_no rfl ?_ | (refine W_yes rfl ?_; (first | refine W_load rfl (Blk.cell (by assumption) (by rfl)) ?_ | refine W_load rfl (by assumption) ?_)))
     <;> (first | refine W_no rfl ?_ | (refine W_yes rfl ?_; (first | refine W_idx1 rfl rfl rfl (by omega) ?_ | refine W_idx rfl rfl rfl (by omega) ?_ | refine W_indexAddr rfl rfl (by omega) (by omega) ?_)))
     <;> (first | refine W_no rfl ?_ | (refine W_yes rfl ?_; refine W_fieldAddr rfl ?_))
     <;> (first | refine W_no rfl ?_ | (refine W_yes rfl ?_; (first | refine W_load rfl (Blk.cell (by assumption) (by rfl)) ?_ | refine W_load rfl (by assumption) ?_)))
     <;> (first | refine W_no rfl ?_ | (refine W_yes rfl ?_; (refine W_neq rfl rfl (fun hc => ?_) (fun hc => ?_) <;> try (exfalso; omega))))
     <;> ((first | refine M_pick_t rfl ?_ | refine M_pick_f rfl ?_); (first | refine M_bool rfl ?_ | refine W_move ?_))
     <;> (first | refine M_bool rfl ?_ | refine W_move ?_)
     <;> (first | refine W_no rfl ?_ | (refine W_yes rfl ?_; (first | refine M_ptr rfl ?_ | refine W_move ?_)))
     <;> (first | refine W_no rfl ?_ | (refine W_yes rfl ?_; refine W_nilCheck rfl ?_))
     <;> (first | refine W_no rfl ?_ | (refine W_yes rfl ?_; refine W_fieldAddr rfl ?_))
     <;> (first | refine W_no rfl ?_ | (refine W_yes rfl ?_; (first | refine W_load rfl (Blk.cell (by assumption) (by rfl)) ?_ | refine W_load rfl (by assumption) ?_)))
     <;> (first | refine W_no rfl ?_ | (refine W_yes rfl ?_; (first | refine W_idx1 rfl rfl rfl (by omega) ?_ | refine W_idx rfl rfl rfl (by omega) ?_ | refine W_indexAddr rfl rfl (by omega) (by omega) ?_)))
     <;> (first | refine W_no rfl ?_ | (refine W_yes rfl ?_; refine W_fieldAddr rfl ?_))
     <;> (first | refine W_no rfl ?_ | (refine W_yes rfl ?_; (first | refine W_load rfl (Blk.cell (by assumption) (by rfl)) ?_ | refine W_load rfl (by assumption) ?_)))
     <;> refine W_no rfl ?_
     <;> (first | refine W_no rfl ?_ | (refine W_yes rfl ?_; refine W_not rfl ?_))
     <;> ((first | refine M_pick_t rfl ?_ | refine M_pick_f rfl ?_); (first | refine M_bool rfl ?_ | refine W_move ?_))
     <;> refine W_nil ?_)
    repeat' first | refine nx ?_ | refine C_cond_t rfl ?_ | refine C_cond_f rfl ?_ | refine Q_block_on rfl ?_
    (refine C_region ?_
     <;> (first | refine M_ptr rfl ?_ | refine W_move ?_))
    -- at operation 1: <dst=(some 32) op=(call <callee=(value (func 62)) args=[(tmp 31)] argTypes=[88]>) type=0 guard=none>
    refine W_callP (wrong_ok E w [] h) rfl (R := fun _ _ => False) ?_ ?_
    · rintro v w2 hh; exact hh.elim
    · rintro ch w2 ⟨rfl, rfl⟩
      repeat' first | refine nx ?_ | refine C_cond_t rfl ?_ | refine C_cond_f rfl ?_ | refine Q_block_on rfl ?_
      exact fin_pan ⟨Keep.refl _ _, [], Run.look (Run.fail _), rfl⟩
  | cons x l =>
    have hl : (x :: l).length = l.length + 1 := rfl
    obtain ⟨b, o, rfl, h1c, ⟨hc0, hc1, hc2⟩, hs1⟩ := PSt.tok hs
    by_cases hok : x.kind = 1 ∧ nameB x.text = true
    · obtain ⟨hk, hn⟩ := hok
      (refine C_region ?_
       <;> (first | refine M_ptr rfl ?_ | refine W_move ?_)
       <;> refine W_nilCheck rfl ?_
       <;> refine W_fieldAddr rfl ?_
       <;> (first | refine W_load rfl (Blk.cell (by assumption) (by rfl)) ?_ | refine W_load rfl (by assumption) ?_)
       <;> refine W_len rfl ?_
       <;> (refine W_eql rfl rfl (fun hc => ?_) (fun hc => ?_) <;> try (exfalso; omega))
       <;> (first | refine M_bool rfl ?_ | refine W_move ?_)
       <;> (first | refine W_no rfl ?_ | (refine W_yes rfl ?_; (first | refine M_ptr rfl ?_ | refine W_move ?_)))
       <;> (first | refine W_no rfl ?_ | (refine W_yes rfl ?_; refine W_nilCheck rfl ?_))
       <;> (first | refine W_no rfl ?_ | (refine W_yes rfl ?_; refine W_fieldAddr rfl ?_))
       <;> (first | refine W_no rfl ?_ | (refine W_yes rfl ?_; (first | refine W_load rfl (Blk.cell (by assumption) (by rfl)) ?_ | refine W_load rfl (by assumption) ?_)))
       <;> (first | refine W_no rfl ?_ | (refine W_yes rfl ?_; (first | refine W_idx1 rfl rfl rfl (by omega) ?_ | refine W_idx rfl rfl rfl (by omega) ?_ | refine W_indexAddr rfl rfl (by omega) (by omega) ?_)))
       <;> (first | refine W_no rfl ?_ | (refine W_yes rfl ?_; refine W_fieldAddr rfl ?_))
       <;> (first | refine W_no rfl ?_ | (refine W_yes rfl ?_; (first | refine W_load rfl (Blk.cell (by assumption) (by rfl)) ?_ | refine W_load rfl (by assumption) ?_)))
       <;> (first | refine W_no rfl ?_ | (refine W_yes rfl ?_; (refine W_neq rfl rfl (fun hc => ?_) (fun hc => ?_) <;> try (exfalso; omega))))
       <;> ((first | refine M_pick_t rfl ?_ | refine M_pick_f rfl ?_); (first | refine M_bool rfl ?_ | refine W_move ?_))
       <;> (first | refine M_bool rfl ?_ | refine W_move ?_)
       <;> (first | refine W_no rfl ?_ | (refine W_yes rfl ?_; (first | refine M_ptr rfl ?_ | refine W_move ?_)))
       <;> (first | refine W_no rfl ?_ | (refine W_yes rfl ?_; refine W_nilCheck rfl ?_))
       <;> (first | refine W_no rfl ?_ | (refine W_yes rfl ?_; refine W_fieldAddr rfl ?_))
       <;> (first | refine W_no rfl ?_ | (refine W_yes rfl ?_; (first | refine W_load rfl (Blk.cell (by assumption) (by rfl)) ?_ | refine W_load rfl (by assumption) ?_)))
       <;> (first | refine W_no rfl ?_ | (refine W_yes rfl ?_; (first | refine W_idx1 rfl rfl rfl (by omega) ?_ | refine W_idx rfl rfl rfl (by omega) ?_ | refine W_indexAddr rfl rfl (by omega) (by omega) ?_)))
       <;> (first | refine W_no rfl ?_ | (refine W_yes rfl ?_; refine W_fieldAddr rfl ?_))
       <;> (first | refine W_no rfl ?_ | (refine W_yes rfl ?_; (first | refine W_load rfl (Blk.cell (by assumption) (by rfl)) ?_ | refine W_load rfl (by assumption) ?_))))
      -- at operation 24: <dst=(some 28) op=(call <callee=(value (func 35)) args=[(tmp 27)] argTypes=[9]>) type=4 guard=(some [16, false])>
      (refine W_yes rfl ?_; refine W_call (sigName_ok x.text w hG) rfl ?_)
      rintro v w1 ⟨rfl, rfl⟩
      rw [hn]
      ((first | refine W_no rfl ?_ | (refine W_yes rfl ?_; refine W_not rfl ?_))
       <;> ((first | refine M_pick_t rfl ?_ | refine M_pick_f rfl ?_); (first | refine M_bool rfl ?_ | refine W_move ?_))
       <;> refine W_nil ?_)
      repeat' first | refine nx ?_ | refine C_cond_t rfl ?_ | refine C_cond_f rfl ?_ | refine Q_block_on rfl ?_
      (refine C_region ?_
       <;> (first | refine M_ptr rfl ?_ | refine W_move ?_)
       <;> refine W_nilCheck rfl ?_
       <;> refine W_fieldAddr rfl ?_
       <;> (first | refine W_load rfl (Blk.cell (by assumption) (by rfl)) ?_ | refine W_load rfl (by assumption) ?_)
       <;> (first | refine W_idx1 rfl rfl rfl (by omega) ?_ | refine W_idx rfl rfl rfl (by omega) ?_ | refine W_indexAddr rfl rfl (by omega) (by omega) ?_)
       <;> refine W_fieldAddr rfl ?_
       <;> (first | refine W_load rfl (Blk.cell (by assumption) (by rfl)) ?_ | refine W_load rfl (by assumption) ?_)
       <;> (refine M_assign ?_; (first | refine M_str rfl ?_ | refine W_move ?_))
       <;> refine W_nil ?_)
      repeat' first | refine nx ?_ | refine C_cond_t rfl ?_ | refine C_cond_f rfl ?_ | refine Q_block_on rfl ?_
      (refine C_region ?_
       <;> (first | refine M_ptr rfl ?_ | refine W_move ?_)
       <;> (first | refine M_ptr rfl ?_ | refine W_move ?_)
       <;> refine W_nilCheck rfl ?_
       <;> refine W_fieldAddr rfl ?_
       <;> (first | refine W_load rfl (Blk.cell (by assumption) (by rfl)) ?_ | refine W_load rfl (by assumption) ?_)
       <;> refine W_slice_l rfl rfl (by omega) (by omega) ?_
       <;> refine W_nilCheck rfl ?_
       <;> refine W_fieldAddr rfl ?_)
      -- at operation 8: <dst=none op=(store 24 (tmp 47) (tmp 45)) type=0 guard=none>
      refine W_store rfl rfl rfl hb (by simp) (fun w2 p2 => ?_)
      have q2 := h.taken hs1 p2
      refine W_nil ?_
      repeat' first | refine nx ?_ | refine C_cond_t rfl ?_ | refine C_cond_f rfl ?_ | refine Q_block_on rfl ?_
      (refine C_region ?_
       <;> (first | refine M_str rfl ?_ | refine W_move ?_)
       <;> (refine M_assign ?_; (first | refine M_str rfl ?_ | refine W_move ?_))
       <;> refine W_nil ?_)
      repeat' first | refine nx ?_ | refine C_cond_t rfl ?_ | refine C_cond_f rfl ?_ | refine Q_block_on rfl ?_
      refine fin_ret1 rfl ⟨p2.keep, x.text, l, Run.look ?_, q2, rfl, hn⟩
      have e : (decide (x.kind = 1) && nameB x.text) = true := by simp [hk, hn]
      show Run (if (decide (x.kind = 1) && nameB x.text) = true then _ else _) _ _
      rw [if_pos e]
      exact Run.next (Run.ret _ _)
    · have hrun : Run nameG (x :: l) (.error (x :: l)) := by
        have e : (decide (x.kind = 1) && nameB x.text) = false := by
          cases hb : (decide (x.kind = 1) && nameB x.text) with
          | false => rfl
          | true => simp at hb; exact absurd hb hok
        refine Run.look ?_
        show Run (if (decide (x.kind = 1) && nameB x.text) = true then _ else _) _ _
        rw [e]
        exact Run.fail _
      by_cases hk : x.kind = 1
      · have hn : nameB x.text = false := by
          cases hb : nameB x.text with
          | false => rfl
          | true => exact absurd ⟨hk, hb⟩ hok
        (refine C_region ?_
         <;> (first | refine M_ptr rfl ?_ | refine W_move ?_)
         <;> refine W_nilCheck rfl ?_
         <;> refine W_fieldAddr rfl ?_
         <;> (first | refine W_load rfl (Blk.cell (by assumption) (by rfl)) ?_ | refine W_load rfl (by assumption) ?_)
         <;> refine W_len rfl ?_
         <;> (refine W_eql rfl rfl (fun hc => ?_) (fun hc => ?_) <;> try (exfalso; omega))
         <;> (first | refine M_bool rfl ?_ | refine W_move ?_)
         <;> (first | refine W_no rfl ?_ | (refine W_yes rfl ?_; (first | refine M_ptr rfl ?_ | refine W_move ?_)))
         <;> (first | refine W_no rfl ?_ | (refine W_yes rfl ?_; refine W_nilCheck rfl ?_))
         <;> (first | refine W_no rfl ?_ | (refine W_yes rfl ?_; refine W_fieldAddr rfl ?_))
         <;> (first | refine W_no rfl ?_ | (refine W_yes rfl ?_; (first | refine W_load rfl (Blk.cell (by assumption) (by rfl)) ?_ | refine W_load rfl (by assumption) ?_)))
         <;> (first | refine W_no rfl ?_ | (refine W_yes rfl ?_; (first | refine W_idx1 rfl rfl rfl (by omega) ?_ | refine W_idx rfl rfl rfl (by omega) ?_ | refine W_indexAddr rfl rfl (by omega) (by omega) ?_)))
         <;> (first | refine W_no rfl ?_ | (refine W_yes rfl ?_; refine W_fieldAddr rfl ?_))
         <;> (first | refine W_no rfl ?_ | (refine W_yes rfl ?_; (first | refine W_load rfl (Blk.cell (by assumption) (by rfl)) ?_ | refine W_load rfl (by assumption) ?_)))
         <;> (first | refine W_no rfl ?_ | (refine W_yes rfl ?_; (refine W_neq rfl rfl (fun hc => ?_) (fun hc => ?_) <;> try (exfalso; omega))))
         <;> ((first | refine M_pick_t rfl ?_ | refine M_pick_f rfl ?_); (first | refine M_bool rfl ?_ | refine W_move ?_))
         <;> (first | refine M_bool rfl ?_ | refine W_move ?_)
         <;> (first | refine W_no rfl ?_ | (refine W_yes rfl ?_; (first | refine M_ptr rfl ?_ | refine W_move ?_)))
         <;> (first | refine W_no rfl ?_ | (refine W_yes rfl ?_; refine W_nilCheck rfl ?_))
         <;> (first | refine W_no rfl ?_ | (refine W_yes rfl ?_; refine W_fieldAddr rfl ?_))
         <;> (first | refine W_no rfl ?_ | (refine W_yes rfl ?_; (first | refine W_load rfl (Blk.cell (by assumption) (by rfl)) ?_ | refine W_load rfl (by assumption) ?_)))
         <;> (first | refine W_no rfl ?_ | (refine W_yes rfl ?_; (first | refine W_idx1 rfl rfl rfl (by omega) ?_ | refine W_idx rfl rfl rfl (by omega) ?_ | refine W_indexAddr rfl rfl (by omega) (by omega) ?_)))
         <;> (first | refine W_no rfl ?_ | (refine W_yes rfl ?_; refine W_fieldAddr rfl ?_))
         <;> (first | refine W_no rfl ?_ | (refine W_yes rfl ?_; (first | refine W_load rfl (Blk.cell (by assumption) (by rfl)) ?_ | refine W_load rfl (by assumption) ?_))))
        -- at operation 24: <dst=(some 28) op=(call <callee=(value (func 35)) args=[(tmp 27)] argTypes=[9]>) type=4 guard=(some [16, false])>
        (refine W_yes rfl ?_; refine W_call (sigName_ok x.text w hG) rfl ?_)
        rintro v w1 ⟨rfl, rfl⟩
        rw [hn]
        ((first | refine W_no rfl ?_ | (refine W_yes rfl ?_; refine W_not rfl ?_))
         <;> ((first | refine M_pick_t rfl ?_ | refine M_pick_f rfl ?_); (first | refine M_bool rfl ?_ | refine W_move ?_))
         <;> refine W_nil ?_)
        repeat' first | refine nx ?_ | refine C_cond_t rfl ?_ | refine C_cond_f rfl ?_ | refine Q_block_on rfl ?_
        (refine C_region ?_
         <;> (first | refine M_ptr rfl ?_ | refine W_move ?_))
        -- at operation 1: <dst=(some 32) op=(call <callee=(value (func 62)) args=[(tmp 31)] argTypes=[88]>) type=0 guard=none>
        refine W_callP (wrong_ok E w1 (x :: l) h) rfl (R := fun _ _ => False) ?_ ?_
        · rintro v w2 hh; exact hh.elim
        · rintro ch w2 ⟨rfl, rfl⟩
          repeat' first | refine nx ?_ | refine C_cond_t rfl ?_ | refine C_cond_f rfl ?_ | refine Q_block_on rfl ?_
          exact fin_pan ⟨Keep.refl _ _, x :: l, hrun, rfl⟩
      · (refine C_region ?_
         <;> (first | refine M_ptr rfl ?_ | refine W_move ?_)
         <;> refine W_nilCheck rfl ?_
         <;> refine W_fieldAddr rfl ?_
         <;> (first | refine W_load rfl (Blk.cell (by assumption) (by rfl)) ?_ | refine W_load rfl (by assumption) ?_)
         <;> refine W_len rfl ?_
         <;> (refine W_eql rfl rfl (fun hc => ?_) (fun hc => ?_) <;> try (exfalso; omega))
         <;> (first | refine M_bool rfl ?_ | refine W_move ?_)
         <;> (first | refine W_no rfl ?_ | (refine W_yes rfl ?_; (first | refine M_ptr rfl ?_ | refine W_move ?_)))
         <;> (first | refine W_no rfl ?_ | (refine W_yes rfl ?_; refine W_nilCheck rfl ?_))
         <;> (first | refine W_no rfl ?_ | (refine W_yes rfl ?_; refine W_fieldAddr rfl ?_))
         <;> (first | refine W_no rfl ?_ | (refine W_yes rfl ?_; (first | refine W_load rfl (Blk.cell (by assumption) (by rfl)) ?_ | refine W_load rfl (by assumption) ?_)))
         <;> (first | refine W_no rfl ?_ | (refine W_yes rfl ?_; (first | refine W_idx1 rfl rfl rfl (by omega) ?_ | refine W_idx rfl rfl rfl (by omega) ?_ | refine W_indexAddr rfl rfl (by omega) (by omega) ?_)))
         <;> (first | refine W_no rfl ?_ | (refine W_yes rfl ?_; refine W_fieldAddr rfl ?_))
         <;> (first | refine W_no rfl ?_ | (refine W_yes rfl ?_; (first | refine W_load rfl (Blk.cell (by assumption) (by rfl)) ?_ | refine W_load rfl (by assumption) ?_)))
         <;> (first | refine W_no rfl ?_ | (refine W_yes rfl ?_; (refine W_neq rfl rfl (fun hc => ?_) (fun hc => ?_) <;> try (exfalso; omega))))
         <;> ((first | refine M_pick_t rfl ?_ | refine M_pick_f rfl ?_); (first | refine M_bool rfl ?_ | refine W_move ?_))
         <;> (first | refine M_bool rfl ?_ | refine W_move ?_)
         <;> (first | refine W_no rfl ?_ | (refine W_yes rfl ?_; (first | refine M_ptr rfl ?_ | refine W_move ?_)))
         <;> (first | refine W_no rfl ?_ | (refine W_yes rfl ?_; refine W_nilCheck rfl ?_))
         <;> (first | refine W_no rfl ?_ | (refine W_yes rfl ?_; refine W_fieldAddr rfl ?_))
         <;> (first | refine W_no rfl ?_ | (refine W_yes rfl ?_; (first | refine W_load rfl (Blk.cell (by assumption) (by rfl)) ?_ | refine W_load rfl (by assumption) ?_)))
         <;> (first | refine W_no rfl ?_ | (refine W_yes rfl ?_; (first | refine W_idx1 rfl rfl rfl (by omega) ?_ | refine W_idx rfl rfl rfl (by omega) ?_ | refine W_indexAddr rfl rfl (by omega) (by omega) ?_)))
         <;> (first | refine W_no rfl ?_ | (refine W_yes rfl ?_; refine W_fieldAddr rfl ?_))
         <;> (first | refine W_no rfl ?_ | (refine W_yes rfl ?_; (first | refine W_load rfl (Blk.cell (by assumption) (by rfl)) ?_ | refine W_load rfl (by assumption) ?_))))
        -- at operation 24: <dst=(some 28) op=(call <callee=(value (func 35)) args=[(tmp 27)] argTypes=[9]>) type=4 guard=(some [16, false])>
        (refine W_no rfl ?_
         <;> (first | refine W_no rfl ?_ | (refine W_yes rfl ?_; refine W_not rfl ?_))
         <;> ((first | refine M_pick_t rfl ?_ | refine M_pick_f rfl ?_); (first | refine M_bool rfl ?_ | refine W_move ?_))
         <;> refine W_nil ?_)
        repeat' first | refine nx ?_ | refine C_cond_t rfl ?_ | refine C_cond_f rfl ?_ | refine Q_block_on rfl ?_
        (refine C_region ?_
         <;> (first | refine M_ptr rfl ?_ | refine W_move ?_))
        -- at operation 1: <dst=(some 32) op=(call <callee=(value (func 62)) args=[(tmp 31)] argTypes=[88]>) type=0 guard=none>
        refine W_callP (wrong_ok E w (x :: l) h) rfl (R := fun _ _ => False) ?_ ?_
        · rintro v w2 hh; exact hh.elim
        · rintro ch w2 ⟨rfl, rfl⟩
          repeat' first | refine nx ?_ | refine C_cond_t rfl ?_ | refine C_cond_f rfl ?_ | refine Q_block_on rfl ?_
          exact fin_pan ⟨Keep.refl _ _, x :: l, hrun, rfl⟩

theorem number_ok (E : Env) (w : World) (ts : List Tok) (h : PSt w E ts) : PDo E 87 [pt E.s] w numberG ts (fun _ v n => v = .int .i64 n ∧ 0 ≤ n ∧ n ≤ 9999) := by
  obtain ⟨a, c, hb, hs⟩ := h.blk
  unfold PDo
  refine fnP_of_wc Tryz.func87 rfl Tryz.ntmps87 (Nat.le_of_ble_eq_true rfl) (by kernel_rfl) ?_
  repeat' first | refine nx ?_ | refine C_cond_t rfl ?_ | refine C_cond_f rfl ?_ | refine Q_block_on rfl ?_
  (refine C_region ?_
   <;> (refine M_assign ?_; (first | refine M_int rfl ?_ | refine W_move ?_))
   <;> refine W_nil ?_)
  repeat' first | refine nx ?_ | refine C_cond_t rfl ?_ | refine C_cond_f rfl ?_ | refine Q_block_on rfl ?_
  cases ts with
  | nil =>
    have hl : ([] : List Tok).length = 0 := rfl
    (refine C_region ?_
     <;> (first | refine M_ptr rfl ?_ | refine W_move ?_)
     <;> refine W_nilCheck rfl ?_
     <;> refine W_fieldAddr rfl ?_
     <;> (first | refine W_load rfl (Blk.cell (by assumption) (by rfl)) ?_ | refine W_load rfl (by assumption) ?_)
     <;> refine W_len rfl ?_
     <;> (refine W_eql rfl rfl (fun hc => ?_) (fun hc => ?_) <;> try (exfalso; omega))
     <;> (first | refine M_bool rfl ?_ | refine W_move ?_)
     <;> (first | refine W_no rfl ?_ | (refine W_yes rfl ?_; (first | refine M_ptr rfl ?_ | refine W_move ?_)))
     <;> (first | refine W_no rfl ?_ | (refine W_yes rfl ?_; refine W_nilCheck rfl ?_))
     <;> (first | refine W_no rfl ?_ | (refine W_yes rfl ?_; refine W_fieldAddr rfl ?_))
     <;> (first | refine W_no rfl ?_ | (refine W_yes rfl ?_; (first | refine W_load rfl (Blk.cell (by assumption) (by rfl)) ?_ | refine W_load rfl (by assumption) ?_)))
     <;> (first | refine W_no rfl ?_ | (refine W_yes rfl ?_; (first | refine W_idx1 rfl rfl rfl (by omega) ?_ | refine W_idx rfl rfl rfl (by omega) ?_ | refine W_indexAddr rfl rfl (by omega) (by omega) ?_)))
     <;> (first | refine W_no rfl ?_ | (refine W_yes rfl ?_; refine W_fieldAddr rfl ?_))
     <;> (first | refine W_no rfl ?_ | (refine W_yes rfl ?_; (first | refine W_load rfl (Blk.cell (by assumption) (by rfl)) ?_ | refine W_load rfl (by assumption) ?_)))
     <;> (first | refine W_no rfl ?_ | (refine W_yes rfl ?_; (refine W_neq rfl rfl (fun hc => ?_) (fun hc => ?_) <;> try (exfalso; omega))))
     <;> ((first | refine M_pick_t rfl ?_ | refine M_pick_f rfl ?_); (first | refine M_bool rfl ?_ | refine W_move ?_))
     <;> refine W_nil ?_)
    repeat' first | refine nx ?_ | refine C_cond_t rfl ?_ | refine C_cond_f rfl ?_ | refine Q_block_on rfl ?_
    (refine C_region ?_
     <;> (first | refine M_ptr rfl ?_ | refine W_move ?_))
    -- at operation 1: <dst=(some 22) op=(call <callee=(value (func 62)) args=[(tmp 21)] argTypes=[88]>) type=0 guard=none>
    refine W_callP (wrong_ok E w [] h) rfl (R := fun _ _ => False) ?_ ?_
    · rintro v w2 hh; exact hh.elim
    · rintro ch w2 ⟨rfl, rfl⟩
      repeat' first | refine nx ?_ | refine C_cond_t rfl ?_ | refine C_cond_f rfl ?_ | refine Q_block_on rfl ?_
      exact fin_pan ⟨Keep.refl _ _, [], Run.look (Run.fail _), rfl⟩
  | cons x l =>
    have hl : (x :: l).length = l.length + 1 := rfl
    obtain ⟨b, o, rfl, h1c, ⟨hc0, hc1, hc2⟩, hs1⟩ := PSt.tok hs
    by_cases hk : x.kind = 2
    · obtain ⟨g1, g2, g3⟩ := h.wf x (by simp) hk
      (refine C_region ?_
       <;> (first | refine M_ptr rfl ?_ | refine W_move ?_)
       <;> refine W_nilCheck rfl ?_
       <;> refine W_fieldAddr rfl ?_
       <;> (first | refine W_load rfl (Blk.cell (by assumption) (by rfl)) ?_ | refine W_load rfl (by assumption) ?_)
       <;> refine W_len rfl ?_
       <;> (refine W_eql rfl rfl (fun hc => ?_) (fun hc => ?_) <;> try (exfalso; omega))
       <;> (first | refine M_bool rfl ?_ | refine W_move ?_)
       <;> (first | refine W_no rfl ?_ | (refine W_yes rfl ?_; (first | refine M_ptr rfl ?_ | refine W_move ?_)))
       <;> (first | refine W_no rfl ?_ | (refine W_yes rfl ?_; refine W_nilCheck rfl ?_))
       <;> (first | refine W_no rfl ?_ | (refine W_yes rfl ?_; refine W_fieldAddr rfl ?_))
       <;> (first | refine W_no rfl ?_ | (refine W_yes rfl ?_; (first | refine W_load rfl (Blk.cell (by assumption) (by rfl)) ?_ | refine W_load rfl (by assumption) ?_)))
       <;> (first | refine W_no rfl ?_ | (refine W_yes rfl ?_; (first | refine W_idx1 rfl rfl rfl (by omega) ?_ | refine W_idx rfl rfl rfl (by omega) ?_ | refine W_indexAddr rfl rfl (by omega) (by omega) ?_)))
       <;> (first | refine W_no rfl ?_ | (refine W_yes rfl ?_; refine W_fieldAddr rfl ?_))
       <;> (first | refine W_no rfl ?_ | (refine W_yes rfl ?_; (first | refine W_load rfl (Blk.cell (by assumption) (by rfl)) ?_ | refine W_load rfl (by assumption) ?_)))
       <;> (first | refine W_no rfl ?_ | (refine W_yes rfl ?_; (refine W_neq rfl rfl (fun hc => ?_) (fun hc => ?_) <;> try (exfalso; omega))))
       <;> ((first | refine M_pick_t rfl ?_ | refine M_pick_f rfl ?_); (first | refine M_bool rfl ?_ | refine W_move ?_))
       <;> refine W_nil ?_)
      repeat' first | refine nx ?_ | refine C_cond_t rfl ?_ | refine C_cond_f rfl ?_ | refine Q_block_on rfl ?_
      (refine C_region ?_
       <;> (first | refine M_ptr rfl ?_ | refine W_move ?_)
       <;> refine W_nilCheck rfl ?_
       <;> refine W_fieldAddr rfl ?_
       <;> (first | refine W_load rfl (Blk.cell (by assumption) (by rfl)) ?_ | refine W_load rfl (by assumption) ?_)
       <;> (first | refine W_idx1 rfl rfl rfl (by omega) ?_ | refine W_idx rfl rfl rfl (by omega) ?_ | refine W_indexAddr rfl rfl (by omega) (by omega) ?_)
       <;> refine W_fieldAddr rfl ?_
       <;> (first | refine W_load rfl (Blk.cell (by assumption) (by rfl)) ?_ | refine W_load rfl (by assumption) ?_))
      -- at operation 7: <dst=(some 31) op=(call <callee=(value (func 100)) args=[(tmp 30)] argTypes=[9]>) type=137 guard=none>
      refine W_call (Atoi_ok x.text w g1 g2 g3) rfl ?_
      rintro v w1 ⟨rfl, k1⟩
      ((first | refine M_tuple rfl ?_ | refine W_move ?_)
       <;> refine W_extract rfl rfl ?_
       <;> refine W_extract rfl rfl ?_
       <;> (refine M_assign ?_; (first | refine M_int rfl ?_ | refine W_move ?_))
       <;> (refine M_assign ?_; refine W_move ?_)
       <;> refine W_nil ?_)
      repeat' first | refine nx ?_ | refine C_cond_t rfl ?_ | refine C_cond_f rfl ?_ | refine Q_block_on rfl ?_
      replace h := h.ext k1
      replace hb := hb.keep k1 (by simp)
      replace hs1 := hs1.ext k1
      (refine C_region ?_
       <;> (first | refine M_ptr rfl ?_ | refine W_move ?_)
       <;> (first | refine M_ptr rfl ?_ | refine W_move ?_)
       <;> refine W_nilCheck rfl ?_
       <;> refine W_fieldAddr rfl ?_
       <;> (first | refine W_load rfl (Blk.cell (by assumption) (by rfl)) ?_ | refine W_load rfl (by assumption) ?_)
       <;> refine W_slice_l rfl rfl (by omega) (by omega) ?_
       <;> refine W_nilCheck rfl ?_
       <;> refine W_fieldAddr rfl ?_)
      -- at operation 8: <dst=none op=(store 24 (tmp 41) (tmp 39)) type=0 guard=none>
      refine W_store rfl rfl rfl hb (by simp) (fun w2 p2 => ?_)
      have q2 := h.taken hs1 p2
      refine W_nil ?_
      repeat' first | refine nx ?_ | refine C_cond_t rfl ?_ | refine C_cond_f rfl ?_ | refine Q_block_on rfl ?_
      (refine C_region ?_
       <;> (first | refine M_int rfl ?_ | refine W_move ?_)
       <;> (refine M_assign ?_; (first | refine M_int rfl ?_ | refine W_move ?_))
       <;> refine W_nil ?_)
      repeat' first | refine nx ?_ | refine C_cond_t rfl ?_ | refine C_cond_f rfl ?_ | refine Q_block_on rfl ?_
      have hn := numOf_le _ x.text rfl g3
      have hn4 := topN_le g2
      refine fin_ret1 rfl ⟨k1.any.trans p2.keep (by simp), numOf x.text, l, Run.look ?_, q2, rfl, by omega⟩
      show Run (if decide (x.kind = 2) = true then _ else _) _ _
      rw [if_pos (by simp [hk])]
      exact Run.next (Run.ret _ _)
    · (refine C_region ?_
       <;> (first | refine M_ptr rfl ?_ | refine W_move ?_)
       <;> refine W_nilCheck rfl ?_
       <;> refine W_fieldAddr rfl ?_
       <;> (first | refine W_load rfl (Blk.cell (by assumption) (by rfl)) ?_ | refine W_load rfl (by assumption) ?_)
       <;> refine W_len rfl ?_
       <;> (refine W_eql rfl rfl (fun hc => ?_) (fun hc => ?_) <;> try (exfalso; omega))
       <;> (first | refine M_bool rfl ?_ | refine W_move ?_)
       <;> (first | refine W_no rfl ?_ | (refine W_yes rfl ?_; (first | refine M_ptr rfl ?_ | refine W_move ?_)))
       <;> (first | refine W_no rfl ?_ | (refine W_yes rfl ?_; refine W_nilCheck rfl ?_))
       <;> (first | refine W_no rfl ?_ | (refine W_yes rfl ?_; refine W_fieldAddr rfl ?_))
       <;> (first | refine W_no rfl ?_ | (refine W_yes rfl ?_; (first | refine W_load rfl (Blk.cell (by assumption) (by rfl)) ?_ | refine W_load rfl (by assumption) ?_)))
       <;> (first | refine W_no rfl ?_ | (refine W_yes rfl ?_; (first | refine W_idx1 rfl rfl rfl (by omega) ?_ | refine W_idx rfl rfl rfl (by omega) ?_ | refine W_indexAddr rfl rfl (by omega) (by omega) ?_)))
       <;> (first | refine W_no rfl ?_ | (refine W_yes rfl ?_; refine W_fieldAddr rfl ?_))
       <;> (first | refine W_no rfl ?_ | (refine W_yes rfl ?_; (first | refine W_load rfl (Blk.cell (by assumption) (by rfl)) ?_ | refine W_load rfl (by assumption) ?_)))
       <;> (first | refine W_no rfl ?_ | (refine W_yes rfl ?_; (refine W_neq rfl rfl (fun hc => ?_) (fun hc => ?_) <;> try (exfalso; omega))))
       <;> ((first | refine M_pick_t rfl ?_ | refine M_pick_f rfl ?_); (first | refine M_bool rfl ?_ | refine W_move ?_))
       <;> refine W_nil ?_)
      repeat' first | refine nx ?_ | refine C_cond_t rfl ?_ | refine C_cond_f rfl ?_ | refine Q_block_on rfl ?_
      (refine C_region ?_
       <;> (first | refine M_ptr rfl ?_ | refine W_move ?_))
      -- at operation 1: <dst=(some 22) op=(call <callee=(value (func 62)) args=[(tmp 21)] argTypes=[88]>) type=0 guard=none>
      refine W_callP (wrong_ok E w (x :: l) h) rfl (R := fun _ _ => False) ?_ ?_
      · rintro v w2 hh; exact hh.elim
      · rintro ch w2 ⟨rfl, rfl⟩
        repeat' first | refine nx ?_ | refine C_cond_t rfl ?_ | refine C_cond_f rfl ?_ | refine Q_block_on rfl ?_
        refine fin_pan ⟨Keep.refl _ _, x :: l, Run.look ?_, rfl⟩
        show Run (if decide (x.kind = 2) = true then _ else _) _ _
        rw [if_neg (by simp [hk])]
        exact Run.fail _
end Go.Proofs.YtmnhnbpnjepkbaaGreatDoor

namespace Go.Proofs.YtmnhnbpnjepkbaaGreatDoor
open Go.RowKit
set_option linter.unusedVariables false

def oprC (o : Opr) : List Value := [.int .i64 o.op, .int .i64 o.indexed, .int .i64 o.val]
theorem oprV_eq (o : Opr) : oprV o = .agg (oprC o).toArray := rfl
theorem oneC_opr (o : Opr) : oneC (oprC o) := by
  intro u hu
  simp [oprC] at hu
  rcases hu with rfl | rfl | rfl <;> rfl
theorem tabV_lookup (x : List UInt8) : ∀ t : List (List UInt8 × Opr), (tabV t).lookup x = (t.lookup x).map oprV
  | [] => rfl
  | (a, o) :: t => by
    have ih := tabV_lookup x t
    simp only [tabV, List.map_cons, List.lookup_cons] at ih ⊢
    cases x == a <;> simp [ih]

/-- the answer of take -/
def takeV (o : Option Opr) : List Value := oprC (o.getD ⟨0, 0, 0⟩)
theorem take_ok (E : Env) (w : World) (ts : List Tok) (m : Nat) (tab : List (List UInt8 × Opr)) (h : PSt w E ts) (hm : SMap w m (tabV tab)) (hms : m ≠ E.s) :
    Fn Tryz.prog 103 [pt E.s, .map (some m)] w (fun v w' => Keep [E.s] w w' ∧ ∃ o ts', v = .tuple #[.agg (takeV o).toArray, .bool o.isSome] ∧ Run (takeG tab) ts (.ok (o, ts')) ∧ PSt w' E ts') := by
  obtain ⟨a, c, hb, hs⟩ := h.blk
  refine fn_of_wc Tryz.func103 rfl Tryz.ntmps103 (Nat.le_of_ble_eq_true rfl) (by kernel_rfl) ?_
  repeat' first | refine nx ?_ | refine C_cond_t rfl ?_ | refine C_cond_f rfl ?_ | refine Q_block_on rfl ?_
  (refine C_region ?_)
  -- at operation 0: <dst=(some 4) op=(alloc 127) type=0 guard=none>
  refine W_alloc (fun w1 n1 => ?_)
  have b1 : Blk w1 w.heap.size 127 [.int .i64 0, .int .i64 0, .int .i64 0] := n1.blk
  have z1 := n1.size
  have hsl := h.slt
  have h1 := h.ext n1.keep
  have hb1 := hb.keep n1.keep (by simp)
  have hs1 := hs.ext n1.keep
  have hm1 := hm.keep n1.keep (by simp)
  ((refine M_assign ?_; (first | refine M_bool rfl ?_ | refine W_move ?_))
   <;> refine W_nil ?_)
  repeat' first | refine nx ?_ | refine C_cond_t rfl ?_ | refine C_cond_f rfl ?_ | refine Q_block_on rfl ?_
  cases ts with
  | nil =>
    have hl : ([] : List Tok).length = 0 := rfl
    (refine C_region ?_
     <;> (first | refine M_ptr rfl ?_ | refine W_move ?_)
     <;> refine W_nilCheck rfl ?_
     <;> refine W_fieldAddr rfl ?_
     <;> (first | refine W_load rfl (Blk.cell (by assumption) (by rfl)) ?_ | refine W_load rfl (by assumption) ?_)
     <;> refine W_len rfl ?_
     <;> (refine W_eql rfl rfl (fun hc => ?_) (fun hc => ?_) <;> try (exfalso; omega))
     <;> refine W_nil ?_)
    repeat' first | refine nx ?_ | refine C_cond_t rfl ?_ | refine C_cond_f rfl ?_ | refine Q_block_on rfl ?_
    (refine C_region ?_
     <;> refine W_build (by rfl) (by rfl) ?_)
    -- at operation 1: <dst=none op=(store 127 (tmp 4) (tmp 14)) type=0 guard=none>
    refine W_store_agg (cs := [.int .i64 0, .int .i64 0, .int .i64 0]) rfl rfl rfl (oneC_opr ⟨0, 0, 0⟩) b1 (by simp) (fun w2 p2 => ?_)
    have b2 : Blk w2 w.heap.size 127 [.int .i64 0, .int .i64 0, .int .i64 0] := p2.blk
    ((refine M_assign ?_; (first | refine M_bool rfl ?_ | refine W_move ?_))
     <;> refine W_nil ?_)
    repeat' first | refine nx ?_ | refine C_cond_t rfl ?_ | refine C_cond_f rfl ?_ | refine Q_block_on rfl ?_
    exact fin_retA1 rfl rfl rfl b2.cells ⟨(n1.keep.keep p2.keep (by simp)).any, none, [], rfl, Run.look (Run.ret _ _), h1.keep p2.keep (by simp; omega)⟩
  | cons x l =>
    have hl : (x :: l).length = l.length + 1 := rfl
    obtain ⟨b, o, rfl, h1c, ⟨hc0, hc1, hc2⟩, hsl1⟩ := PSt.tok hs1
    have e0 := tabV_lookup x.text tab
    (refine C_region ?_
     <;> (first | refine M_ptr rfl ?_ | refine W_move ?_)
     <;> refine W_nilCheck rfl ?_
     <;> refine W_fieldAddr rfl ?_
     <;> (first | refine W_load rfl (Blk.cell (by assumption) (by rfl)) ?_ | refine W_load rfl (by assumption) ?_)
     <;> refine W_len rfl ?_
     <;> (refine W_eql rfl rfl (fun hc => ?_) (fun hc => ?_) <;> try (exfalso; omega))
     <;> refine W_nil ?_)
    repeat' first | refine nx ?_ | refine C_cond_t rfl ?_ | refine C_cond_f rfl ?_ | refine Q_block_on rfl ?_
    (refine C_region ?_
     <;> (first | refine M_map rfl ?_ | refine W_move ?_)
     <;> (first | refine M_ptr rfl ?_ | refine W_move ?_)
     <;> refine W_nilCheck rfl ?_
     <;> refine W_fieldAddr rfl ?_
     <;> (first | refine W_load rfl (Blk.cell (by assumption) (by rfl)) ?_ | refine W_load rfl (by assumption) ?_)
     <;> (first | refine W_idx1 rfl rfl rfl (by omega) ?_ | refine W_idx rfl rfl rfl (by omega) ?_ | refine W_indexAddr rfl rfl (by omega) (by omega) ?_)
     <;> refine W_fieldAddr rfl ?_
     <;> (first | refine W_load rfl (Blk.cell (by assumption) (by rfl)) ?_ | refine W_load rfl (by assumption) ?_))
    -- at operation 8: <dst=(some 24) op=(lookup 109 (tmp 16) (tmp 23) true) type=139 guard=none>
    refine W_lookup2S rfl rfl hm1 ?_
    have eg : ((tabV tab).lookup x.text).getD (.agg #[.int .i64 0, .int .i64 0, .int .i64 0]) = .agg (takeV (tab.lookup x.text)).toArray := by
      rw [e0]; cases tab.lookup x.text <;> rfl
    have es : ((tabV tab).lookup x.text).isSome = (tab.lookup x.text).isSome := by rw [e0]; simp
    rw [eg, es]
    have hrun : Run (takeG tab) (x :: l) (match tab.lookup x.text with | some p => .ok (some p, l) | none => .ok (none, x :: l)) := by
      refine Run.look ?_
      show Run (match tab.lookup x.text with | some p => .next (.ret (some p)) | none => .ret none) _ _
      cases tab.lookup x.text with
      | none => exact Run.ret _ _
      | some p => exact Run.next (Run.ret _ _)
    have hone : oneC (takeV (tab.lookup x.text)) := oneC_opr _
    have hlen : (takeV (tab.lookup x.text)).length = 3 := rfl
    generalize tab.lookup x.text = q at hrun hone hlen
    ((first | refine M_tuple rfl ?_ | refine W_move ?_)
     <;> refine W_extract rfl rfl ?_
     <;> refine W_extract rfl rfl ?_)
    -- at operation 12: <dst=(some 6) op=(alloc 127) type=0 guard=none>
    refine W_alloc (fun w2 n2 => ?_)
    have z2 := n2.size
    refine W_store_agg (cs := takeV q) rfl rfl rfl hone n2.blk (by simp [takeV, oprC]) (fun w3 p3 => ?_)
    have k3 : Ext w1 w3 := n2.keep.keep p3.keep (by simp)
    have b3 : Blk w3 w1.heap.size 127 (takeV q) := p3.blk
    have h3 := h1.ext k3
    have hb3 := hb1.keep k3 (by simp)
    have hsl3 := hsl1.ext k3
    have b1' := b1.keep k3 (by simp)
    ((refine M_assign ?_; (first | refine M_bool rfl ?_ | refine W_move ?_))
     <;> refine W_nil ?_)
    repeat' first | refine nx ?_ | refine C_cond_t rfl ?_ | refine C_cond_f rfl ?_ | refine Q_block_on rfl ?_
    (refine C_region ?_
     <;> (first | refine M_bool rfl ?_ | refine W_move ?_)
     <;> refine W_nil ?_)
    cases q with
    | none =>
      repeat' first | refine nx ?_ | refine C_cond_t rfl ?_ | refine C_cond_f rfl ?_ | refine Q_block_on rfl ?_
      (refine C_region ?_
       <;> (first | refine W_load_aggB rfl (by assumption) (by rfl) ?_ | refine W_load_agg rfl (by rfl) (Blk.cells (by assumption)) ?_)
       <;> (first | refine M_bool rfl ?_ | refine W_move ?_))
      -- at operation 2: <dst=none op=(store 127 (tmp 4) (tmp 36)) type=0 guard=none>
      refine W_store_agg (cs := takeV none) rfl rfl rfl hone b1' (by simp [takeV, oprC]) (fun w4 p4 => ?_)
      have b4 : Blk w4 w.heap.size 127 (takeV none) := p4.blk
      have k4 : Ext w w4 := (n1.keep.trans k3).keep p4.keep (by simp)
      ((refine M_assign ?_; (first | refine M_bool rfl ?_ | refine W_move ?_))
       <;> refine W_nil ?_)
      repeat' first | refine nx ?_ | refine C_cond_t rfl ?_ | refine C_cond_f rfl ?_ | refine Q_block_on rfl ?_
      exact fin_retA1 rfl rfl rfl b4.cells ⟨k4.any, none, x :: l, rfl, hrun, h3.keep p4.keep (by simp; omega)⟩
    | some q =>
      repeat' first | refine nx ?_ | refine C_cond_t rfl ?_ | refine C_cond_f rfl ?_ | refine Q_block_on rfl ?_
      (refine C_region ?_
       <;> (first | refine M_ptr rfl ?_ | refine W_move ?_)
       <;> (first | refine M_ptr rfl ?_ | refine W_move ?_)
       <;> refine W_nilCheck rfl ?_
       <;> refine W_fieldAddr rfl ?_
       <;> (first | refine W_load rfl (Blk.cell (by assumption) (by rfl)) ?_ | refine W_load rfl (by assumption) ?_)
       <;> refine W_slice_l rfl rfl (by omega) (by omega) ?_
       <;> refine W_nilCheck rfl ?_
       <;> refine W_fieldAddr rfl ?_)
      -- at operation 8: <dst=none op=(store 24 (tmp 35) (tmp 33)) type=0 guard=none>
      refine W_store rfl rfl rfl hb3 (by simp) (fun w4 p4 => ?_)
      have q4 := h3.taken hsl3 p4
      have b3' := b3.keep p4.keep (by simp; omega)
      have b1'' := b1'.keep p4.keep (by simp; omega)
      refine W_nil ?_
      repeat' first | refine nx ?_ | refine C_cond_t rfl ?_ | refine C_cond_f rfl ?_ | refine Q_block_on rfl ?_
      (refine C_region ?_
       <;> (first | refine W_load_aggB rfl (by assumption) (by rfl) ?_ | refine W_load_agg rfl (by rfl) (Blk.cells (by assumption)) ?_)
       <;> (first | refine M_bool rfl ?_ | refine W_move ?_))
      -- at operation 2: <dst=none op=(store 127 (tmp 4) (tmp 36)) type=0 guard=none>
      refine W_store_agg (cs := takeV (some q)) rfl rfl rfl hone b1'' (by simp [takeV, oprC]) (fun w5 p5 => ?_)
      have b5 : Blk w5 w.heap.size 127 (takeV (some q)) := p5.blk
      have k5 : Keep [E.s] w w5 := ((n1.keep.trans k3).any.trans p4.keep (by simp)).trans p5.keep (by simp)
      ((refine M_assign ?_; (first | refine M_bool rfl ?_ | refine W_move ?_))
       <;> refine W_nil ?_)
      repeat' first | refine nx ?_ | refine C_cond_t rfl ?_ | refine C_cond_f rfl ?_ | refine Q_block_on rfl ?_
      exact fin_retA1 rfl rfl rfl b5.cells ⟨k5, some q, l, rfl, hrun, q4.keep p5.keep (by simp; omega)⟩

theorem index_ok (E : Env) (w : World) (ts : List Tok) (o : Opr) (h : PSt w E ts) : PDo E 104 [pt E.s, .agg (oprC o).toArray] w (indexG o) ts (fun _ v n => v = .tuple #[.int .i64 (n.getD 0), .bool n.isSome] ∧ 0 ≤ n.getD 0 ∧ n.getD 0 ≤ 9999) := by
  have hsl := h.slt
  unfold PDo
  refine fnP_of_wc Tryz.func104 rfl Tryz.ntmps104 (Nat.le_of_ble_eq_true rfl) (by kernel_rfl) ?_
  repeat' first | refine nx ?_ | refine C_cond_t rfl ?_ | refine C_cond_f rfl ?_ | refine Q_block_on rfl ?_
  (refine C_region ?_; refine W_box (L := oprC o) rfl (fun w1 n1 => ?_))
  have b1 : Blk w1 w.heap.size 127 [.int .i64 o.op, .int .i64 o.indexed, .int .i64 o.val] := n1.blk
  have z1 := n1.size
  have h1 := h.ext n1.keep
  ((refine M_assign ?_; (first | refine M_int rfl ?_ | refine W_move ?_))
   <;> (refine M_assign ?_; (first | refine M_bool rfl ?_ | refine W_move ?_))
   <;> refine W_nil ?_)
  repeat' first | refine nx ?_ | refine C_cond_t rfl ?_ | refine C_cond_f rfl ?_ | refine Q_block_on rfl ?_
  by_cases h0 : o.indexed = 0
  · (refine C_region ?_
     <;> refine W_fieldAddr rfl ?_
     <;> (first | refine W_load rfl (Blk.cell (by assumption) (by rfl)) ?_ | refine W_load rfl (by assumption) ?_)
     <;> (refine W_eql rfl rfl (fun hc => ?_) (fun hc => ?_) <;> try (exfalso; omega))
     <;> (first | refine M_bool rfl ?_ | refine W_move ?_)
     <;> (first | refine W_no rfl ?_ | (refine W_yes rfl ?_; (first | refine M_ptr rfl ?_ | refine W_move ?_))))
    -- at operation 5: <dst=(some 12) op=(call <callee=(value (func 64)) args=[(tmp 11), (const (string <data=[91]>))] argTypes=[88, 9]>) type=4 guard=(some [3, false])>
    (refine W_no rfl ?_
     <;> (first | refine W_no rfl ?_ | (refine W_yes rfl ?_; refine W_not rfl ?_))
     <;> ((first | refine M_pick_t rfl ?_ | refine M_pick_f rfl ?_); (first | refine M_bool rfl ?_ | refine W_move ?_))
     <;> refine W_nil ?_)
    repeat' first | refine nx ?_ | refine C_cond_t rfl ?_ | refine C_cond_f rfl ?_ | refine Q_block_on rfl ?_
    (refine C_region ?_
     <;> (refine M_assign ?_; (first | refine M_int rfl ?_ | refine W_move ?_))
     <;> (refine M_assign ?_; (first | refine M_bool rfl ?_ | refine W_move ?_))
     <;> refine W_nil ?_)
    repeat' first | refine nx ?_ | refine C_cond_t rfl ?_ | refine C_cond_f rfl ?_ | refine Q_block_on rfl ?_
    refine fin_ret2 rfl ⟨n1.keep.any, none, ts, ?_, h1, rfl, by decide, by decide⟩
    unfold indexG
    rw [if_pos h0]; exact Run.ret _ _
  · have e : indexG o = (accepts [91]).bind fun b => if b then numberG.bind fun n => (expect [93]).bind fun _ => .ret (some n) else .ret none := by unfold indexG; rw [if_neg h0]
    rw [e]
    (refine C_region ?_
     <;> refine W_fieldAddr rfl ?_
     <;> (first | refine W_load rfl (Blk.cell (by assumption) (by rfl)) ?_ | refine W_load rfl (by assumption) ?_)
     <;> (refine W_eql rfl rfl (fun hc => ?_) (fun hc => ?_) <;> try (exfalso; omega))
     <;> (first | refine M_bool rfl ?_ | refine W_move ?_)
     <;> (first | refine W_no rfl ?_ | (refine W_yes rfl ?_; (first | refine M_ptr rfl ?_ | refine W_move ?_))))
    -- at operation 5: <dst=(some 12) op=(call <callee=(value (func 64)) args=[(tmp 11), (const (string <data=[91]>))] argTypes=[88, 9]>) type=4 guard=(some [3, false])>
    (refine W_yes rfl ?_; refine W_call (accepts_ok E w1 ts [91] h1) rfl ?_)
    rintro v w2 ⟨k2, b, t2, rfl, r2, h2⟩
    replace k2 : Keep [E.s] w w2 := n1.keep.any.trans k2 (by simp)
    cases b with
    | false =>
      ((first | refine W_no rfl ?_ | (refine W_yes rfl ?_; refine W_not rfl ?_))
       <;> ((first | refine M_pick_t rfl ?_ | refine M_pick_f rfl ?_); (first | refine M_bool rfl ?_ | refine W_move ?_))
       <;> refine W_nil ?_)
      repeat' first | refine nx ?_ | refine C_cond_t rfl ?_ | refine C_cond_f rfl ?_ | refine Q_block_on rfl ?_
      (refine C_region ?_
       <;> (refine M_assign ?_; (first | refine M_int rfl ?_ | refine W_move ?_))
       <;> (refine M_assign ?_; (first | refine M_bool rfl ?_ | refine W_move ?_))
       <;> refine W_nil ?_)
      repeat' first | refine nx ?_ | refine C_cond_t rfl ?_ | refine C_cond_f rfl ?_ | refine Q_block_on rfl ?_
      exact fin_ret2 rfl ⟨k2, none, t2, r2.bind (Run.ret _ _), h2, rfl, by decide, by decide⟩
    | true =>
      ((first | refine W_no rfl ?_ | (refine W_yes rfl ?_; refine W_not rfl ?_))
       <;> ((first | refine M_pick_t rfl ?_ | refine M_pick_f rfl ?_); (first | refine M_bool rfl ?_ | refine W_move ?_))
       <;> refine W_nil ?_)
      repeat' first | refine nx ?_ | refine C_cond_t rfl ?_ | refine C_cond_f rfl ?_ | refine Q_block_on rfl ?_
      (refine C_region ?_
       <;> (first | refine M_ptr rfl ?_ | refine W_move ?_))
      -- at operation 1: <dst=(some 16) op=(call <callee=(value (func 87)) args=[(tmp 15)] argTypes=[88]>) type=3 guard=none>
      refine W_callP (number_ok E w2 t2 h2) rfl ?_ ?_
      · rintro v w3 ⟨k3, n, t3, r3, h3, rfl, hn0, hn1⟩
        replace k3 := k2.trans k3 (by simp)
        ((refine M_assign ?_; (first | refine M_int rfl ?_ | refine W_move ?_))
         <;> refine W_nil ?_)
        repeat' first | refine nx ?_ | refine C_cond_t rfl ?_ | refine C_cond_f rfl ?_ | refine Q_block_on rfl ?_
        (refine C_region ?_
         <;> (first | refine M_ptr rfl ?_ | refine W_move ?_))
        -- at operation 1: <dst=(some 18) op=(call <callee=(value (func 75)) args=[(tmp 17), (const (string <data=[93]>))] argTypes=[88, 9]>) type=0 guard=none>
        refine W_callP (expect_ok E w3 t3 [93] h3) rfl ?_ ?_
        · rintro v w4 ⟨k4, u, t4, r4, h4, rfl⟩
          refine W_nil ?_
          repeat' first | refine nx ?_ | refine C_cond_t rfl ?_ | refine C_cond_f rfl ?_ | refine Q_block_on rfl ?_
          (refine C_region ?_
           <;> (first | refine M_int rfl ?_ | refine W_move ?_)
           <;> (refine M_assign ?_; (first | refine M_int rfl ?_ | refine W_move ?_))
           <;> (refine M_assign ?_; (first | refine M_bool rfl ?_ | refine W_move ?_))
           <;> refine W_nil ?_)
          repeat' first | refine nx ?_ | refine C_cond_t rfl ?_ | refine C_cond_f rfl ?_ | refine Q_block_on rfl ?_
          exact fin_ret2 rfl ⟨k3.trans k4 (by simp), some n, t4, r2.bind (r3.bind (r4.bind (Run.ret _ _))), h4, rfl, hn0, hn1⟩
        · rintro ch w4 ⟨k4, l, r4, rfl⟩
          repeat' first | refine nx ?_ | refine C_cond_t rfl ?_ | refine C_cond_f rfl ?_ | refine Q_block_on rfl ?_
          exact fin_pan ⟨k3.trans k4 (by simp), l, r2.bind (r3.bind (Run.bindE r4)), rfl⟩
      · rintro ch w3 ⟨k3, l, r3, rfl⟩
        repeat' first | refine nx ?_ | refine C_cond_t rfl ?_ | refine C_cond_f rfl ?_ | refine Q_block_on rfl ?_
        exact fin_pan ⟨k2.trans k3 (by simp), l, r2.bind (Run.bindE r3), rfl⟩
end Go.Proofs.YtmnhnbpnjepkbaaGreatDoor
