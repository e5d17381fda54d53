/- The reference printer: what can be printed. The printer's plain law: the tokens of a formula are parsed to it. The printer's plain law: a formula's tokens are parsed to it, whatever it is. The reference printer: the text of a formula. The reference printer: requirements, edits. The reference printer: specifications and edits held printable. Conditions: none. -/
import Derived.Test.YtfcgdbmoncnibaaGreatDoorZA13

namespace Go.Proofs.YtfcgdbmoncnibaaGreatDoor
open Go.RowKit
set_option linter.unusedVariables false
def latB (f : Fml) : Bool := decide (f.op = 15) && decide (f.val = 1)
def nodeR (f : Fml) : Bool :=
 CL f.op f.args.length && (decide (f.op = 3) == !f.name.isEmpty) && (!decide (f.op = 3) || BW f.name) && numB f.val && numB f.bound &&
 !(!decide (f.val = 0) && !decide (f.op = 3) && !(decide (f.op = 16) || decide (f.op = 17)) && !latB f) && !(!decide (f.bound = 0) && !(decide (f.op = 13) || decide (f.op = 14)))
theorem nodeR_eq (f : Fml) : nodeR f = nodeOk f.op f.name f.val f.bound f.args.length := by
 unfold nodeR nodeOk CL latB numB
 have hE : BW [] = false := rfl
 generalize f.args.length = k
 cases hs : BS f.op with
 | none => simp
 | some s =>
  rcases op_cases hs with h | h | h | h | h | h | h | h | h | h | h | h | h | h | h | h | h | h | h <;> rw [h] at hs ⊢ <;> simp [BS, styL, List.lookup] at hs <;> subst hs <;> rw [Bool.eq_iff_iff]
  all_goals
   by_cases hN : BW f.name = true
   ·have hne : f.name ≠ [] := fun e => by have := (BB hN).1; rw [e] at this; simp at this
    simp [hN, hne]
    try omega
   ·have hN : BW f.name = false := by simpa using hN
    by_cases hn : f.name = []
    ·by_cases hm : k ≤ many
     ·simp [hn, hE, hm]
      try omega
     ·simp [hn, hE, hm]
      try omega
    ·simp [hN, hn]
theorem okL_app : ∀ (l m : List Fml), okL (l ++ m) = (okL l && okL m)
 | [], m => by simp [okL]
 | a :: l, m => by simp [okL, okL_app l m, Bool.and_assoc]
theorem numB0 : numB 0 = true := rfl
set_option maxHeartbeats 3200000 in
set_option maxRecDepth 8000 in
theorem printable_ok : ∀ (N : Nat) (f : Fml), szF f ≤ N → szF f ≤ 1000000 → ∀ (w : World) (v : Value), FAt Aw w v f → Fn Tryz.prog 20 [v] w fun u w' => u = .bool (okF f) ∧ Ext w w' := by
 intro N
 induction N with
 | zero => intro f hN; have := Cw f; omega
 | succ N ih =>
 intro f hN hz w v hf
 obtain ⟨av, rfl, L, hS, hFA⟩ := hf.form
 obtain ⟨a, c, rfl, hS'⟩ := id hS
 have hsz := szF_eq f
 have hal : f.args.length ≤ 1000000 := by have := szL_len f.args; omega
 refine Aa Tryz.func20 rfl Tryz.ntmps20 (Nat.le_of_ble_eq_true rfl) (by kernel_rfl) ?_
 repeat' first | refine nx rfl ?_ | fail
 (refine AA ?_; refine BL (L := fcC f (.slice a f.args.length c)) rfl (fun w1 n1 => ?_))
 have b1 := n1.blk
 have k1 := n1.keep
 have c0 : w1.cell? ⟨w.heap.size, 0 + 0, none⟩ = some (.int .i64 f.op) := b1.cell rfl
 have c1 : w1.cell? ⟨w.heap.size, 0 + 1, none⟩ = some (AM f.name) := b1.cell rfl
 have c2 : w1.cell? ⟨w.heap.size, 0 + 2, none⟩ = some (.int .i64 f.val) := b1.cell rfl
 have c3 : w1.cell? ⟨w.heap.size, 0 + 3, none⟩ = some (.int .i64 f.bound) := b1.cell rfl
 have c4 : w1.cell? ⟨w.heap.size, 0 + 4, none⟩ = some (.slice a f.args.length c) := b1.cell rfl
 refine AB (AC rfl (AE ?_))
 repeat' first | refine AE ?_ | refine Cd ?_ | refine Co ?_
 generalize hI : decide (f.op = 3) = bI
 refine Bv (α := Unit) (fun _ => [(1, pt w.heap.size), (3, .bool bI)]) (fun _ W => w1 = W) ?_ ?_
 ·by_cases h3 : f.op = 3
  ·obtain rfl : bI = true := by rw [← hI]; simp [h3]
   (refine AA (AD rfl ?_) <;> refine AG rfl (Blk.cell (by assumption) (by rfl)) ?_ <;> (refine AH rfl rfl (fun hc => ?_) (fun hc => ?_) <;> try omega) <;> refine AB (AC rfl (AE ?_)))
   exact Am () ⟨rfl, rfl, trivial⟩ rfl
  ·obtain rfl : bI = false := by rw [← hI]; simp [h3]
   (refine AA (AD rfl ?_) <;> refine AG rfl (Blk.cell (by assumption) (by rfl)) ?_ <;> (refine AH rfl rfl (fun hc => ?_) (fun hc => ?_) <;> try omega) <;> refine AB (AC rfl (AE ?_)))
   exact Am () ⟨rfl, rfl, trivial⟩ rfl
 rintro _ _ f1 rfl
 repeat' first | refine AE ?_ | refine Cd ?_ | refine Co ?_
 generalize hS2 : (decide (f.op = 16) || decide (f.op = 17)) = bS
 refine Bv (α := Unit) (fun _ => [(1, pt w.heap.size), (3, .bool bI), (4, .bool bS)]) (fun _ W => w1 = W) ?_ ?_
 ·by_cases h16 : f.op = 16
  ·obtain rfl : bS = true := by rw [← hS2]; simp [h16]
   (refine AA (AD rfl ?_) <;> refine AG rfl (Blk.cell (by assumption) (by rfl)) ?_ <;> (refine AH rfl rfl (fun hc => ?_) (fun hc => ?_) <;> try omega) <;> refine AC rfl (AK rfl (AK rfl (AK rfl (AN rfl (AC rfl (AB (AC rfl (AE ?_)))))))))
   exact Am () ⟨rfl, rfl, rfl, trivial⟩ rfl
  ·by_cases h17 : f.op = 17
   ·obtain rfl : bS = true := by rw [← hS2]; simp [h17]
    (refine AA (AD rfl ?_) <;> refine AG rfl (Blk.cell (by assumption) (by rfl)) ?_ <;> (refine AH rfl rfl (fun hc => ?_) (fun hc => ?_) <;> try omega) <;> refine AC rfl (AF rfl (AD rfl ?_)) <;> (refine AF rfl ?_; refine AG rfl (Blk.cell (by assumption) (by rfl)) ?_) <;> (refine AF rfl ?_; (refine AH rfl rfl (fun hc => ?_) (fun hc => ?_) <;> try omega)) <;> refine AQ rfl (AC rfl (AB (AC rfl (AE ?_)))))
    exact Am () ⟨rfl, rfl, rfl, trivial⟩ rfl
   ·obtain rfl : bS = false := by rw [← hS2]; simp [h16, h17]
    (refine AA (AD rfl ?_) <;> refine AG rfl (Blk.cell (by assumption) (by rfl)) ?_ <;> (refine AH rfl rfl (fun hc => ?_) (fun hc => ?_) <;> try omega) <;> refine AC rfl (AF rfl (AD rfl ?_)) <;> (refine AF rfl ?_; refine AG rfl (Blk.cell (by assumption) (by rfl)) ?_) <;> (refine AF rfl ?_; (refine AH rfl rfl (fun hc => ?_) (fun hc => ?_) <;> try omega)) <;> refine AQ rfl (AC rfl (AB (AC rfl (AE ?_)))))
    exact Am () ⟨rfl, rfl, rfl, trivial⟩ rfl
 rintro _ _ f2 rfl
 repeat' first | refine AE ?_ | refine Cd ?_ | refine Co ?_
 generalize hB2 : (decide (f.op = 13) || decide (f.op = 14)) = bB
 refine Bv (α := Unit) (fun _ => [(1, pt w.heap.size), (3, .bool bI), (4, .bool bS), (5, .bool bB)]) (fun _ W => w1 = W) ?_ ?_
 ·by_cases h16 : f.op = 13
  ·obtain rfl : bB = true := by rw [← hB2]; simp [h16]
   (refine AA (AD rfl ?_) <;> refine AG rfl (Blk.cell (by assumption) (by rfl)) ?_ <;> (refine AH rfl rfl (fun hc => ?_) (fun hc => ?_) <;> try omega) <;> refine AC rfl (AK rfl (AK rfl (AK rfl (AN rfl (AC rfl (AB (AC rfl (AE ?_)))))))))
   exact Am () ⟨rfl, rfl, rfl, rfl, trivial⟩ rfl
  ·by_cases h17 : f.op = 14
   ·obtain rfl : bB = true := by rw [← hB2]; simp [h17]
    (refine AA (AD rfl ?_) <;> refine AG rfl (Blk.cell (by assumption) (by rfl)) ?_ <;> (refine AH rfl rfl (fun hc => ?_) (fun hc => ?_) <;> try omega) <;> refine AC rfl (AF rfl (AD rfl ?_)) <;> (refine AF rfl ?_; refine AG rfl (Blk.cell (by assumption) (by rfl)) ?_) <;> (refine AF rfl ?_; (refine AH rfl rfl (fun hc => ?_) (fun hc => ?_) <;> try omega)) <;> refine AQ rfl (AC rfl (AB (AC rfl (AE ?_)))))
    exact Am () ⟨rfl, rfl, rfl, rfl, trivial⟩ rfl
   ·obtain rfl : bB = false := by rw [← hB2]; simp [h16, h17]
    (refine AA (AD rfl ?_) <;> refine AG rfl (Blk.cell (by assumption) (by rfl)) ?_ <;> (refine AH rfl rfl (fun hc => ?_) (fun hc => ?_) <;> try omega) <;> refine AC rfl (AF rfl (AD rfl ?_)) <;> (refine AF rfl ?_; refine AG rfl (Blk.cell (by assumption) (by rfl)) ?_) <;> (refine AF rfl ?_; (refine AH rfl rfl (fun hc => ?_) (fun hc => ?_) <;> try omega)) <;> refine AQ rfl (AC rfl (AB (AC rfl (AE ?_)))))
    exact Am () ⟨rfl, rfl, rfl, rfl, trivial⟩ rfl
 rintro _ _ f3 rfl
 repeat' first | refine AE ?_ | refine Cd ?_ | refine Co ?_
 generalize hL2 : latB f = bL
 refine Bv (α := Unit) (fun _ => [(1, pt w.heap.size), (3, .bool bI), (4, .bool bS), (5, .bool bB), (6, .bool bL)]) (fun _ W => w1 = W) ?_ ?_
 ·by_cases h15 : f.op = 15
  ·by_cases h1 : f.val = 1
   ·obtain rfl : bL = true := by rw [← hL2]; simp [latB, h15, h1]
    (refine AA (AD rfl ?_) <;> refine AG rfl (Blk.cell (by assumption) (by rfl)) ?_ <;> (refine AH rfl rfl (fun hc => ?_) (fun hc => ?_) <;> try omega) <;> refine AC rfl (AF rfl (AD rfl ?_)) <;> (refine AF rfl ?_; refine AG rfl (Blk.cell (by assumption) (by rfl)) ?_) <;> (refine AF rfl ?_; (refine AH rfl rfl (fun hc => ?_) (fun hc => ?_) <;> try omega)) <;> refine AN rfl (AC rfl (AB (AC rfl (AE ?_)))))
    exact Am () ⟨rfl, rfl, rfl, rfl, rfl, trivial⟩ rfl
   ·obtain rfl : bL = false := by rw [← hL2]; simp [latB, h1]
    (refine AA (AD rfl ?_) <;> refine AG rfl (Blk.cell (by assumption) (by rfl)) ?_ <;> (refine AH rfl rfl (fun hc => ?_) (fun hc => ?_) <;> try omega) <;> refine AC rfl (AF rfl (AD rfl ?_)) <;> (refine AF rfl ?_; refine AG rfl (Blk.cell (by assumption) (by rfl)) ?_) <;> (refine AF rfl ?_; (refine AH rfl rfl (fun hc => ?_) (fun hc => ?_) <;> try omega)) <;> refine AN rfl (AC rfl (AB (AC rfl (AE ?_)))))
    exact Am () ⟨rfl, rfl, rfl, rfl, rfl, trivial⟩ rfl
  ·obtain rfl : bL = false := by rw [← hL2]; simp [latB, h15]
   (refine AA (AD rfl ?_) <;> refine AG rfl (Blk.cell (by assumption) (by rfl)) ?_ <;> (refine AH rfl rfl (fun hc => ?_) (fun hc => ?_) <;> try omega) <;> refine AC rfl (AK rfl (AK rfl (AK rfl (AQ rfl (AC rfl (AB (AC rfl (AE ?_)))))))))
   exact Am () ⟨rfl, rfl, rfl, rfl, rfl, trivial⟩ rfl
 rintro _ _ f4 rfl
 repeat' first | refine AE ?_ | refine Cd ?_ | refine Co ?_
 refine Bv (α := Unit) (fun _ => [(1, pt w.heap.size), (95, .bool (!nodeR f))]) (fun _ W => Ext w1 W) ?_ ?_
 ·have kk : Ext w1 w1 := Ext.refl _
  (refine AA (AD rfl ?_) <;> refine AG rfl (Blk.cell (by assumption) (by rfl)) ?_ <;> refine AD rfl ?_ <;> refine AG rfl (Blk.cell (by assumption) (by rfl)) ?_ <;> refine Ao rfl ?_)
  refine AR (rargs_ok w1 f.op f.args.length hal) rfl ?_
  rintro _ w2 ⟨rfl, rfl⟩
  generalize hA : CL f.op f.args.length = bA
  cases bA with
  | false =>
   refine A4 rfl ?_
   rw [Bool.not_false]
   refine AC rfl (AK rfl (AK rfl (AK rfl (AK rfl (AK rfl (AN rfl (AC rfl (AC rfl (AK rfl (AK rfl (AK rfl (AK rfl (AK rfl (AK rfl (AK rfl (AN rfl (AC rfl (AC rfl (AK rfl (AK rfl (AK rfl (AK rfl (AN rfl (AC rfl (AC rfl (AK rfl (AK rfl (AK rfl (AK rfl (AN rfl (AC rfl (AC rfl (AK rfl (AK rfl (AK rfl (AK rfl (AK rfl (AK rfl (AK rfl (AK rfl (AK rfl (AK rfl (AK rfl (AK rfl (AK rfl (AK rfl (AK rfl (AN rfl (AC rfl (AC rfl (AK rfl (AK rfl (AK rfl (AK rfl (AK rfl (AK rfl (AK rfl (AN rfl (AC rfl (AE ?_))))))))))))))))))))))))))))))))))))))))))))))))))))))))))))
   all_goals
    repeat' first | refine nx rfl ?_ | fail
    exact Am () ⟨rfl, congrArg Value.bool (by clear ih hf hS hFA hS' n1 b1 k1 hsz hal; simp [nodeR, numB0, *]), trivial⟩ kk
  | true =>
   cases bI with
   | true =>
    (refine A4 rfl (AC rfl (AF rfl (AC rfl (AF rfl (AD rfl ?_))))) <;> (refine AF rfl ?_; refine AG rfl (Blk.cell (by assumption) (by rfl)) ?_) <;> (refine AF rfl ?_; refine W_sneq rfl rfl (fun hc => ?_) (fun hc => ?_)) <;> refine AF rfl (W_bneq rfl rfl (AQ rfl (AC rfl (AC rfl ?_)))) <;> (first | refine AK rfl ?_ | (refine AF rfl ?_; refine AC rfl ?_)) <;> (first | refine AK rfl ?_ | (refine AF rfl ?_; refine AC rfl ?_)) <;> (first | refine AK rfl ?_ | (refine AF rfl ?_; refine AD rfl ?_)) <;> (first | refine AK rfl ?_ | (refine AF rfl ?_; refine AG rfl (Blk.cell (by assumption) (by rfl)) ?_)))
    ·refine AF rfl ?_
     refine AR (refName_ok f.name w2) rfl ?_
     rintro _ w3 ⟨rfl, k3⟩
     have d2 := k3.cell c2 (by simp)
     have d3 := k3.cell c3 (by simp)
     clear c0 c1 c2 c3 c4
     have kk := k3
     generalize hN : BW f.name = bN
     cases bN with
     | false =>
      (refine AF rfl (A4 rfl ?_) <;> (refine AF rfl ?_; (refine AN rfl ?_; refine AC rfl ?_)) <;> refine AQ rfl (AC rfl (AC rfl (AK rfl (AK rfl (AK rfl (AK rfl (AN rfl (AC rfl (AC rfl (AK rfl (AK rfl (AK rfl (AK rfl (AN rfl (AC rfl (AC rfl (AK rfl (AK rfl (AK rfl (AK rfl (AK rfl (AK rfl (AK rfl (AK rfl (AK rfl (AK rfl (AK rfl (AK rfl (AK rfl (AK rfl (AK rfl (AN rfl (AC rfl (AC rfl (AK rfl (AK rfl (AK rfl (AK rfl (AK rfl (AK rfl (AK rfl (AN rfl (AC rfl (AE ?_)))))))))))))))))))))))))))))))))))))))))))))
      all_goals
       repeat' first | refine nx rfl ?_ | fail
       exact Am () ⟨rfl, congrArg Value.bool (by clear ih hf hS hFA hS' n1 b1 k1 hsz hal; simp [nodeR, numB0, *]), trivial⟩ kk
     | true =>
      (refine AF rfl (A4 rfl ?_) <;> (refine AF rfl ?_; (refine AN rfl ?_; refine AC rfl ?_)) <;> refine AQ rfl (AC rfl (AC rfl (AF rfl (AD rfl (AF rfl ?_))))) <;> refine AG rfl (by assumption) ?_)
      refine AF rfl ?_
      refine AR (rnumber_ok _ f.val) rfl ?_
      rintro _ w3 ⟨rfl, rfl⟩
      generalize hV : numB f.val = bV
      cases bV with
      | false =>
       refine AF rfl (A4 rfl (AQ rfl (AC rfl (AC rfl (AK rfl (AK rfl (AK rfl (AK rfl (AN rfl (AC rfl (AC rfl (AK rfl (AK rfl (AK rfl (AK rfl (AK rfl (AK rfl (AK rfl (AK rfl (AK rfl (AK rfl (AK rfl (AK rfl (AK rfl (AK rfl (AK rfl (AN rfl (AC rfl (AC rfl (AK rfl (AK rfl (AK rfl (AK rfl (AK rfl (AK rfl (AK rfl (AN rfl (AC rfl (AE ?_)))))))))))))))))))))))))))))))))))))))
       all_goals
        repeat' first | refine nx rfl ?_ | fail
        exact Am () ⟨rfl, congrArg Value.bool (by clear ih hf hS hFA hS' n1 b1 k1 hsz hal; simp [nodeR, numB0, *]), trivial⟩ kk
      | true =>
       (refine AF rfl (A4 rfl (AQ rfl (AC rfl (AC rfl (AF rfl (AD rfl (AF rfl ?_))))))) <;> refine AG rfl (by assumption) ?_)
       refine AF rfl ?_
       refine AR (rnumber_ok _ f.bound) rfl ?_
       rintro _ w4 ⟨rfl, rfl⟩
       generalize hBd : numB f.bound = bBd
       cases bBd with
       | false =>
        refine AF rfl (A4 rfl (AQ rfl (AC rfl (AC rfl (AK rfl (AK rfl (AK rfl (AK rfl (AK rfl (AK rfl (AK rfl (AK rfl (AK rfl (AK rfl (AK rfl (AK rfl (AK rfl (AK rfl (AK rfl (AN rfl (AC rfl (AC rfl (AK rfl (AK rfl (AK rfl (AK rfl (AK rfl (AK rfl (AK rfl (AN rfl (AC rfl (AE ?_))))))))))))))))))))))))))))))))
        all_goals
         repeat' first | refine nx rfl ?_ | fail
         exact Am () ⟨rfl, congrArg Value.bool (by clear ih hf hS hFA hS' n1 b1 k1 hsz hal; simp [nodeR, numB0, *]), trivial⟩ kk
       | true =>
        cases bS <;> cases bL <;> cases bB
        all_goals
         (refine AF rfl (A4 rfl (AQ rfl (AC rfl (AC rfl (AF rfl (AD rfl (AF rfl ?_))))))) <;> refine AG rfl (by assumption) ?_ <;> (refine AF rfl ?_; (refine CZ rfl rfl (fun hc => ?_) (fun hc => ?_) <;> try omega)) <;> refine AF rfl (AC rfl ?_) <;> (first | refine AK rfl ?_ | (refine AF rfl ?_; refine AC rfl ?_)) <;> (first | refine AK rfl ?_ | (refine AF rfl ?_; refine A4 rfl ?_)) <;> (refine AF rfl ?_; ((first | refine AN rfl ?_ | refine AQ rfl ?_); refine AC rfl ?_)) <;> refine AF rfl (AC rfl (AK rfl (AK rfl ?_))) <;> (refine AF rfl ?_; (refine AQ rfl ?_; refine AC rfl ?_)) <;> refine AF rfl (AC rfl (AK rfl (AK rfl ?_))) <;> (refine AF rfl ?_; (refine AQ rfl ?_; refine AC rfl ?_)) <;> refine AQ rfl (AC rfl (AC rfl (AF rfl (AD rfl (AF rfl ?_))))) <;> refine AG rfl (by assumption) ?_ <;> (refine AF rfl ?_; (refine CZ rfl rfl (fun hc => ?_) (fun hc => ?_) <;> try omega)) <;> refine AF rfl (AC rfl ?_) <;> (first | refine AK rfl ?_ | (refine AF rfl ?_; refine AC rfl ?_)) <;> (first | refine AK rfl ?_ | (refine AF rfl ?_; refine A4 rfl ?_)) <;> (refine AF rfl ?_; ((first | refine AN rfl ?_ | refine AQ rfl ?_); refine AC rfl ?_)) <;> refine AQ rfl (AC rfl (AE ?_)))
        all_goals
         repeat' first | refine nx rfl ?_ | fail
         exact Am () ⟨rfl, congrArg Value.bool (by clear ih hf hS hFA hS' n1 b1 k1 hsz hal; simp [nodeR, numB0, *]), trivial⟩ kk
    ·refine AK rfl (AK rfl (AK rfl (AN rfl (AC rfl (AC rfl (AK rfl (AK rfl (AK rfl (AK rfl (AN rfl (AC rfl (AC rfl (AK rfl (AK rfl (AK rfl (AK rfl (AN rfl (AC rfl (AC rfl (AK rfl (AK rfl (AK rfl (AK rfl (AK rfl (AK rfl (AK rfl (AK rfl (AK rfl (AK rfl (AK rfl (AK rfl (AK rfl (AK rfl (AK rfl (AN rfl (AC rfl (AC rfl (AK rfl (AK rfl (AK rfl (AK rfl (AK rfl (AK rfl (AK rfl (AN rfl (AC rfl (AE ?_)))))))))))))))))))))))))))))))))))))))))))))))
     all_goals
      repeat' first | refine nx rfl ?_ | fail
      exact Am () ⟨rfl, congrArg Value.bool (by clear ih hf hS hFA hS' n1 b1 k1 hsz hal; simp [nodeR, numB0, *]), trivial⟩ kk
   | false =>
    (refine A4 rfl (AC rfl (AF rfl (AC rfl (AF rfl (AD rfl ?_))))) <;> (refine AF rfl ?_; refine AG rfl (Blk.cell (by assumption) (by rfl)) ?_) <;> (refine AF rfl ?_; refine W_sneq rfl rfl (fun hc => ?_) (fun hc => ?_)) <;> refine AF rfl (W_bneq rfl rfl (AQ rfl (AC rfl (AC rfl ?_)))) <;> (first | refine AK rfl ?_ | (refine AF rfl ?_; refine AC rfl ?_)) <;> (first | refine AK rfl ?_ | (refine AF rfl ?_; refine AC rfl ?_)) <;> refine AK rfl (AK rfl ?_))
    ·refine AK rfl (AK rfl (AK rfl (AN rfl (AC rfl (AC rfl (AK rfl (AK rfl (AK rfl (AK rfl (AN rfl (AC rfl (AC rfl (AK rfl (AK rfl (AK rfl (AK rfl (AN rfl (AC rfl (AC rfl (AK rfl (AK rfl (AK rfl (AK rfl (AK rfl (AK rfl (AK rfl (AK rfl (AK rfl (AK rfl (AK rfl (AK rfl (AK rfl (AK rfl (AK rfl (AN rfl (AC rfl (AC rfl (AK rfl (AK rfl (AK rfl (AK rfl (AK rfl (AK rfl (AK rfl (AN rfl (AC rfl (AE ?_)))))))))))))))))))))))))))))))))))))))))))))))
     all_goals
      repeat' first | refine nx rfl ?_ | fail
      exact Am () ⟨rfl, congrArg Value.bool (by clear ih hf hS hFA hS' n1 b1 k1 hsz hal; simp [nodeR, numB0, *]), trivial⟩ kk
    ·refine AK rfl ?_
     (refine AK rfl ?_ <;> (refine AF rfl ?_; (refine AQ rfl ?_; refine AC rfl ?_)) <;> refine AQ rfl (AC rfl (AC rfl (AF rfl (AD rfl ?_)))) <;> (refine AF rfl ?_; refine AG rfl (Blk.cell (by assumption) (by rfl)) ?_))
     refine AF rfl ?_
     refine AR (rnumber_ok _ f.val) rfl ?_
     rintro _ w3 ⟨rfl, rfl⟩
     generalize hV : numB f.val = bV
     cases bV with
     | false =>
      refine AF rfl (A4 rfl (AQ rfl (AC rfl (AC rfl (AK rfl (AK rfl (AK rfl (AK rfl (AN rfl (AC rfl (AC rfl (AK rfl (AK rfl (AK rfl (AK rfl (AK rfl (AK rfl (AK rfl (AK rfl (AK rfl (AK rfl (AK rfl (AK rfl (AK rfl (AK rfl (AK rfl (AN rfl (AC rfl (AC rfl (AK rfl (AK rfl (AK rfl (AK rfl (AK rfl (AK rfl (AK rfl (AN rfl (AC rfl (AE ?_)))))))))))))))))))))))))))))))))))))))
      all_goals
       repeat' first | refine nx rfl ?_ | fail
       exact Am () ⟨rfl, congrArg Value.bool (by clear ih hf hS hFA hS' n1 b1 k1 hsz hal; simp [nodeR, numB0, *]), trivial⟩ kk
     | true =>
      (refine AF rfl (A4 rfl (AQ rfl (AC rfl (AC rfl (AF rfl (AD rfl ?_)))))) <;> (refine AF rfl ?_; refine AG rfl (Blk.cell (by assumption) (by rfl)) ?_))
      refine AF rfl ?_
      refine AR (rnumber_ok _ f.bound) rfl ?_
      rintro _ w4 ⟨rfl, rfl⟩
      generalize hBd : numB f.bound = bBd
      cases bBd with
      | false =>
       refine AF rfl (A4 rfl (AQ rfl (AC rfl (AC rfl (AK rfl (AK rfl (AK rfl (AK rfl (AK rfl (AK rfl (AK rfl (AK rfl (AK rfl (AK rfl (AK rfl (AK rfl (AK rfl (AK rfl (AK rfl (AN rfl (AC rfl (AC rfl (AK rfl (AK rfl (AK rfl (AK rfl (AK rfl (AK rfl (AK rfl (AN rfl (AC rfl (AE ?_))))))))))))))))))))))))))))))))
       all_goals
        repeat' first | refine nx rfl ?_ | fail
        exact Am () ⟨rfl, congrArg Value.bool (by clear ih hf hS hFA hS' n1 b1 k1 hsz hal; simp [nodeR, numB0, *]), trivial⟩ kk
      | true =>
       cases bS <;> cases bL <;> cases bB
       all_goals
        (refine AF rfl (A4 rfl (AQ rfl (AC rfl (AC rfl (AF rfl (AD rfl ?_)))))) <;> (refine AF rfl ?_; refine AG rfl (Blk.cell (by assumption) (by rfl)) ?_) <;> (refine AF rfl ?_; (refine CZ rfl rfl (fun hc => ?_) (fun hc => ?_) <;> try omega)) <;> refine AF rfl (AC rfl ?_) <;> (first | refine AK rfl ?_ | (refine AF rfl ?_; refine AC rfl ?_)) <;> (first | refine AK rfl ?_ | (refine AF rfl ?_; refine A4 rfl ?_)) <;> (refine AF rfl ?_; ((first | refine AN rfl ?_ | refine AQ rfl ?_); refine AC rfl ?_)) <;> refine AF rfl (AC rfl ?_) <;> (first | refine AK rfl ?_ | (refine AF rfl ?_; refine AC rfl ?_)) <;> (first | refine AK rfl ?_ | (refine AF rfl ?_; refine A4 rfl ?_)) <;> (refine AF rfl ?_; ((first | refine AN rfl ?_ | refine AQ rfl ?_); refine AC rfl ?_)) <;> refine AF rfl (AC rfl ?_) <;> (first | refine AK rfl ?_ | (refine AF rfl ?_; refine AC rfl ?_)) <;> (first | refine AK rfl ?_ | (refine AF rfl ?_; refine A4 rfl ?_)) <;> (refine AF rfl ?_; ((first | refine AN rfl ?_ | refine AQ rfl ?_); refine AC rfl ?_)) <;> refine AQ rfl (AC rfl (AC rfl ?_)) <;> (first | refine AK rfl ?_ | (refine AF rfl ?_; refine AD rfl ?_)) <;> (first | refine AK rfl ?_ | (refine AF rfl ?_; refine AG rfl (Blk.cell (by assumption) (by rfl)) ?_)) <;> (first | refine AK rfl ?_ | (refine AF rfl ?_; (refine CZ rfl rfl (fun hc => ?_) (fun hc => ?_) <;> try omega))) <;> (first | refine AK rfl ?_ | (refine AF rfl ?_; refine AC rfl ?_)) <;> (first | refine AK rfl ?_ | (refine AF rfl ?_; refine AC rfl ?_)) <;> (first | refine AK rfl ?_ | (refine AF rfl ?_; refine A4 rfl ?_)) <;> (first | refine AK rfl ?_ | (refine AF rfl ?_; ((first | refine AN rfl ?_ | refine AQ rfl ?_); refine AC rfl ?_))) <;> ((first | refine AN rfl ?_ | refine AQ rfl ?_); refine AC rfl ?_) <;> refine AE ?_)
       all_goals
        repeat' first | refine nx rfl ?_ | fail
        exact Am () ⟨rfl, congrArg Value.bool (by clear ih hf hS hFA hS' n1 b1 k1 hsz hal; simp [nodeR, numB0, *]), trivial⟩ kk
 rintro _ w5 f5 k5
 have b5 := b1.keep k5 (by simp)
 have d4 : w5.cell? ⟨w.heap.size, 0 + 4, none⟩ = some (.slice a f.args.length c) := b5.cell rfl
 generalize hnr : nodeR f = nr
 rw [nodeR_eq] at hnr
 cases nr with
 | false =>
  repeat' first | refine nx rfl ?_ | fail
  refine AA (AB (AC rfl ?_))
  repeat' first | refine nx rfl ?_ | fail
  exact AL rfl ⟨by rw [okF_eq, hnr]; rfl, k1.trans k5⟩
 | true =>
 repeat' first | refine nx rfl ?_ | refine nf rfl ?_
 refine AA (AB (AI rfl ?_))
 repeat' first | refine nx rfl ?_ | fail
 have k15 := k1.trans k5
 refine BE (α := Nat) (fun k => [(1, pt w.heap.size), (7, .int .i64 (k : Int))]) (fun k W => k ≤ f.args.length ∧ okL (f.args.take k) = true ∧ Ext w5 W) (fun k => f.args.length - k) 0 ⟨rfl, rfl, trivial⟩ ⟨by simp, rfl, Ext.refl _⟩ ?_
 rintro k w6 f6 ⟨hk, hok, k6⟩
 have e4 := k6.cell d4 (by simp)
 repeat' first | refine nx rfl ?_ | fail
 by_cases hlt : k < f.args.length
 ·(refine AA (AI rfl (AD rfl ?_)) <;> refine AG rfl (by assumption) ?_ <;> refine Ao rfl ?_ <;> (refine As rfl rfl (fun hc => ?_) (fun hc => ?_) <;> try omega))
  repeat' first | refine nx rfl ?_ | fail
  obtain ⟨x, hx⟩ : ∃ x, f.args[k]? = some x := ⟨_, List.getElem?_eq_getElem hlt⟩
  obtain ⟨cx, hcx⟩ : ∃ cx, L[k]? = some cx := ⟨_, List.getElem?_eq_getElem (by rw [hFA.1]; exact hlt)⟩
  obtain ⟨ba, oa, rfl, hba, hcellx⟩ := hS.fml hFA.2.1 hcx hlt
  have hxm := szL_mem (List.mem_of_getElem? hx)
  have kw := k15.trans k6
  have hfx : FAt Aw w6 (.agg cx.toArray) x := (hFA.2.2 k cx x hcx hx).ext kw
  have hcx6 := hcellx.keep kw (by simp)
  (refine AA (AD rfl ?_) <;> refine AG rfl (by assumption) ?_ <;> refine AI rfl ?_)
  refine BP (k := k) rfl rfl rfl (by omega) ?_
  refine AU (L := cx) rfl (hFA.2.1 cx (List.mem_of_getElem? hcx)) hcx6 ?_
  refine AR (ih x (by omega) (by omega) w6 _ hfx) rfl ?_
  rintro _ w7 ⟨rfl, k7⟩
  generalize hox : okF x = ox
  refine A4 rfl ?_
  cases ox with
  | false =>
   rw [Bool.not_false]
   repeat' first | refine nx rfl ?_ | fail
   refine AA (AB (AC rfl ?_))
   repeat' first | refine nx rfl ?_ | fail
   refine AL rfl ⟨?_, (k15.trans k6).trans k7⟩
   have : okF f = false := by
    rw [okF_eq]
    cases hc2 : okL f.args with
    | false => simp
    | true => have := okL_mem hc2 x (List.mem_of_getElem? hx); rw [hox] at this; cases this
   rw [this]; rfl
  | true =>
   rw [Bool.not_true]
   repeat' first | refine nx rfl ?_ | refine nf rfl ?_
   (refine AA (AI rfl ?_) <;> refine BD rfl rfl (by first | exact Ah (by omega) (by omega) | exact Aq (by omega) (by omega) | exact Ai (by omega) (by omega)) ?_ <;> refine AB (AI rfl ?_))
   repeat' first | refine nx rfl ?_ | fail
   refine ⟨k + 1, ⟨rfl, ⟨rfl, ?_, trivial⟩, ⟨hlt, ?_, k6.trans k7⟩⟩, by omega⟩
   ·show Value.int .i64 ((k : Int) + 1) = _
    rw [Int.natCast_add]; rfl
   ·have e : f.args.take (k + 1) = f.args.take k ++ [x] := by rw [List.take_add_one, hx]; rfl
    rw [e, okL_app, hok]
    simp [okL, hox]
 ·(refine AA (AI rfl (AD rfl ?_)) <;> refine AG rfl (by assumption) ?_ <;> refine Ao rfl ?_ <;> (refine As rfl rfl (fun hc => ?_) (fun hc => ?_) <;> try omega))
  repeat' first | refine nx rfl ?_ | refine nf rfl ?_
  refine AA (AB (AC rfl ?_))
  repeat' first | refine nx rfl ?_ | fail
  have e : k = f.args.length := by omega
  subst e
  rw [List.take_length] at hok
  exact AL rfl ⟨by rw [okF_eq, hnr, hok]; rfl, k15.trans k6⟩
end Go.Proofs.YtfcgdbmoncnibaaGreatDoor
namespace Go.Proofs.YtfcgdbmoncnibaaGreatDoor
set_option linter.unusedVariables false
variable {mk : Prop} [MK mk]
end Go.Proofs.YtfcgdbmoncnibaaGreatDoor
namespace Go.Proofs.YtfcgdbmoncnibaaGreatDoor
set_option linter.unusedVariables false
variable {mk : Prop} [MK mk]
theorem one_of {l : List Fml} (h1 : 1 ≤ l.length) (h2 : l.length ≤ 1) : ∃ a, l = [a] := by
 match l, h1, h2 with
 | [a], _, _ => exact ⟨a, rfl⟩
theorem two_of {l : List Fml} (h1 : 2 ≤ l.length) (h2 : l.length ≤ 2) : ∃ a c, l = [a, c] := by
 match l, h1, h2 with
 | [a, c], _, _ => exact ⟨a, c, rfl⟩
end Go.Proofs.YtfcgdbmoncnibaaGreatDoor
namespace Go.Proofs.YtfcgdbmoncnibaaGreatDoor
open Go.RowKit
set_option linter.unusedVariables false
theorem prF_at (n : Nat) (f : Fml) : prF n f = if (CO f.op).level < n then [40] ++ (prF 0 f ++ [41]) else prF 0 f := by
 cases f with
 | mk op nm v b args =>
  simp only [prF, Fml.op]
  rw [show decide ((CO op).level < 0) = false by simp]
  by_cases h : (CO op).level < n
  ·simp [wrapT, h]
  ·simp [wrapT, h]
theorem Ce {f : Fml} (hok : okF f = true) (n : Nat) : (prF n f).length ≤ 44 * szF f := by have := prF_len _ f (Nat.le_refl _) hok n; omega
def TextOk (f : Fml) : Prop := ∀ (w : World) (v : Value), FAt Aw w v f → Fn Tryz.prog 45 [v] w fun u w' => u = AM (prF 0 f) ∧ Ext w w'
theorem rat_ok {f : Fml} (hT : TextOk f) (hok : okF f = true) (hz : szF f ≤ 1000000) (n : Nat) (w : World) (v : Value) (hf : FAt Aw w v f) : Fn Tryz.prog 79 [v, .int .i64 (n : Int)] w fun u w' => u = AM (prF n f) ∧ Ext w w' := by
 obtain ⟨av, rfl, L, hS, hFA⟩ := hf.form
 have hl := Ce hok 0
 refine Aa Tryz.func79 rfl Tryz.ntmps79 (Nat.le_of_ble_eq_true rfl) (by kernel_rfl) ?_
 repeat' first | refine nx rfl ?_ | fail
 (refine AA ?_; refine BL (L := fcC f av) rfl (fun w1 n1 => ?_))
 have b1 := n1.blk
 have k1 := n1.keep
 have c0 : w1.cell? ⟨w.heap.size, 0 + 0, none⟩ = some (.int .i64 f.op) := b1.cell rfl
 ((refine AB ?_; refine AT rfl ?_))
 repeat' first | refine nx rfl ?_ | fail
 (refine AA (AD rfl ?_) <;> refine AG rfl (Blk.cell (by assumption) (by rfl)) ?_)
 refine AR (rlevel_ok w1 f.op) rfl ?_
 rintro _ w2 ⟨rfl, rfl⟩
 by_cases hlv : (CO f.op).level < n
 ·(refine AI rfl ?_ <;> (refine Cu rfl rfl (fun hc => ?_) (fun hc => ?_) <;> try omega))
  repeat' first | refine nx rfl ?_ | refine nf rfl ?_
  (refine AA ?_; refine AW (L := fcC f av) rfl b1 rfl ?_)
  refine AR (hT w2 _ (hf.ext k1)) rfl ?_
  rintro _ w3 ⟨rfl, k3⟩
  refine Ar rfl rfl (by simp; omega) ?_
  refine Ar rfl rfl (by simp; omega) ?_
  ((refine AB ?_; refine AT rfl ?_))
  repeat' first | refine nx rfl ?_ | fail
  refine AL rfl ⟨?_, k1.trans k3⟩
  rw [prF_at n, if_pos hlv, ← List.append_assoc]
  rfl
 ·(refine AI rfl ?_ <;> (refine Cu rfl rfl (fun hc => ?_) (fun hc => ?_) <;> try omega))
  repeat' first | refine nx rfl ?_ | fail
  (refine AA ?_; refine AW (L := fcC f av) rfl b1 rfl ?_)
  refine AR (hT w2 _ (hf.ext k1)) rfl ?_
  rintro _ w3 ⟨rfl, k3⟩
  ((refine AB ?_; refine AT rfl ?_))
  repeat' first | refine nx rfl ?_ | fail
  refine AL rfl ⟨?_, k1.trans k3⟩
  rw [prF_at n, if_neg hlv]
  rfl
def jnT (n : Nat) (sep : List UInt8) : List Fml → List UInt8
 | [] => []
 | a :: l => prF n a ++ prR n sep l
theorem prR_len {n : Nat} {sep : List UInt8} (hs : sep.length ≤ 4) : ∀ {l : List Fml}, okL l = true → (prR n sep l).length ≤ 48 * szL l
 | [], _ => by simp [prR]
 | a :: l, h => by
  simp only [okL, Bool.and_eq_true] at h
  have h1 := Ce h.1 n
  have h2 := prR_len (n := n) hs h.2
  have := Cw a
  simp only [prR, szL, List.length_append]; omega
theorem jnT_len {n : Nat} {sep : List UInt8} (hs : sep.length ≤ 4) {l : List Fml} (h : okL l = true) : (jnT n sep l).length ≤ 48 * szL l := by
 cases l with
 | nil => simp [jnT]
 | cons a l =>
  simp only [okL, Bool.and_eq_true] at h
  have h1 := Ce h.1 n
  have h2 := prR_len (n := n) hs h.2
  simp only [jnT, szL, List.length_append]; omega
theorem prR_app (n : Nat) (sep : List UInt8) : ∀ l m, prR n sep (l ++ m) = prR n sep l ++ prR n sep m
 | [], m => by simp [prR]
 | a :: l, m => by simp [prR, prR_app n sep l m]
theorem szL_app : ∀ l m : List Fml, szL (l ++ m) = szL l + szL m
 | [], m => by simp [szL]
 | a :: l, m => by simp only [List.cons_append, szL, szL_app l m]; omega
theorem szL_take (l : List Fml) (k : Nat) : szL (l.take k) ≤ szL l := by
 have := szL_app (l.take k) (l.drop k)
 rw [List.take_append_drop] at this
 omega
theorem okL_take {l : List Fml} (h : okL l = true) (k : Nat) : okL (l.take k) = true := by
 have := okL_app (l.take k) (l.drop k)
 rw [List.take_append_drop, h] at this
 simp only [Bool.true_eq, Bool.and_eq_true] at this
 exact this.1
theorem rjoined_ok (f : Fml) (hT : ∀ a ∈ f.args, TextOk a) (hok : okL f.args = true) (hz : szF f ≤ 1000000) (n : Nat) (sep : List UInt8) (hs : sep.length ≤ 4) (w : World) (v : Value) (hf : FAt Aw w v f) :
  Fn Tryz.prog 80 [v, .int .i64 (n : Int), AM sep] w fun u w' => u = AM (jnT n sep f.args) ∧ Ext w w' := by
 obtain ⟨av, rfl, L, hS, hFA⟩ := hf.form
 obtain ⟨a, c, rfl, hS'⟩ := id hS
 have hsz := szF_eq f
 refine Aa Tryz.func80 rfl Tryz.ntmps80 (Nat.le_of_ble_eq_true rfl) (by kernel_rfl) ?_
 repeat' first | refine nx rfl ?_ | fail
 (refine AA ?_; refine BL (L := fcC f (.slice a f.args.length c)) rfl (fun w1 n1 => ?_))
 have b1 := n1.blk
 have k1 := n1.keep
 have c4 : w1.cell? ⟨w.heap.size, 0 + 4, none⟩ = some (.slice a f.args.length c) := b1.cell rfl
 have hal := szL_len f.args
 ((refine AB ?_; refine AT rfl ?_))
 repeat' first | refine nx rfl ?_ | fail
 refine AA (AB (AT rfl ?_))
 repeat' first | refine nx rfl ?_ | fail
 refine AA (AB (AI rfl ?_))
 repeat' first | refine nx rfl ?_ | fail
 refine BE (α := Nat) (fun k => [(1, .int .i64 (n : Int)), (2, AM sep), (3, pt w.heap.size), (7, AM (jnT n sep (f.args.take k))), (8, .int .i64 (k : Int))]) (fun k W => k ≤ f.args.length ∧ Ext w1 W) (fun k => f.args.length - k) 0 ⟨rfl, rfl, rfl, rfl, rfl, trivial⟩ ⟨by simp, Ext.refl _⟩ ?_
 rintro k w2 f2 ⟨hk, k2⟩
 have e4 := k2.cell c4 (by simp)
 repeat' first | refine nx rfl ?_ | fail
 by_cases hlt : k < f.args.length
 ·(refine AA (AI rfl (AD rfl ?_)) <;> refine AG rfl (by assumption) ?_ <;> refine Ao rfl ?_ <;> (refine As rfl rfl (fun hc => ?_) (fun hc => ?_) <;> try omega))
  repeat' first | refine nx rfl ?_ | fail
  obtain ⟨x, hx⟩ : ∃ x, f.args[k]? = some x := ⟨_, List.getElem?_eq_getElem hlt⟩
  obtain ⟨cx, hcx⟩ : ∃ cx, L[k]? = some cx := ⟨_, List.getElem?_eq_getElem (by rw [hFA.1]; exact hlt)⟩
  obtain ⟨ba, oa, rfl, hba, hcellx⟩ := hS.fml hFA.2.1 hcx hlt
  have hxm := List.mem_of_getElem? hx
  have hxs := szL_mem hxm
  have kw := k1.trans k2
  have hfx : FAt Aw w2 (.agg cx.toArray) x := (hFA.2.2 k cx x hcx hx).ext kw
  have hcx2 := hcellx.keep kw (by simp)
  have hxo := okL_mem hok x hxm
  have hxl := Ce hxo n
  have htk : f.args.take (k + 1) = f.args.take k ++ [x] := by rw [List.take_add_one, hx]; rfl
  have hjl := jnT_len (n := n) hs (okL_take hok k)
  have hjs := szL_take f.args k
  by_cases hk0 : 0 < k
  ·have hnew : jnT n sep (f.args.take (k + 1)) = jnT n sep (f.args.take k) ++ sep ++ prF n x := by
    rw [htk]
    cases hcl : f.args.take k with
    | nil =>
     have := congrArg List.length hcl
     simp at this
     rcases this with h | h
     ·omega
     ·rw [h] at hlt; simp at hlt
    | cons a0 l0 => simp [jnT, prR_app, prR]
   (refine AA (AI rfl ?_) <;> (refine Bn rfl rfl (fun hc => ?_) (fun hc => ?_) <;> try omega))
   repeat' first | refine nx rfl ?_ | fail
   refine AA (AT rfl (AT rfl ?_))
   refine Ar rfl rfl (by omega) ?_
   ((refine AB ?_; refine AT rfl ?_))
   repeat' first | refine nx rfl ?_ | fail
   (refine AA (AT rfl (AD rfl ?_)) <;> refine AG rfl (by assumption) ?_ <;> refine AI rfl ?_)
   refine BP rfl rfl rfl (by omega) ?_
   refine AU (L := cx) rfl (hFA.2.1 cx (List.mem_of_getElem? hcx)) hcx2 ?_
   (refine AI rfl ?_)
   refine AR (rat_ok (hT x hxm) hxo (by omega) n w2 _ hfx) rfl ?_
   rintro _ w3 ⟨rfl, k3⟩
   refine Ar rfl rfl (by (try simp only [List.length_append]); omega) ?_
   ((refine AB ?_; refine AT rfl ?_))
   repeat' first | refine nx rfl ?_ | fail
   (refine AA (AI rfl ?_) <;> refine BD rfl rfl (by first | exact Ah (by omega) (by omega) | exact Aq (by omega) (by omega) | exact Ai (by omega) (by omega)) ?_ <;> refine AB (AI rfl ?_))
   repeat' first | refine nx rfl ?_ | fail
   refine ⟨k + 1, ⟨rfl, ⟨rfl, rfl, rfl, (by rw [hnew]; rfl), (by show Value.int .i64 (((k : Nat) : Int) + 1) = _; rw [Int.natCast_add]; rfl), trivial⟩, ⟨hlt, k2.trans k3⟩⟩, by omega⟩
  ·obtain rfl : k = 0 := by omega
   have hnew : jnT n sep (f.args.take (0 + 1)) = jnT n sep (f.args.take 0) ++ prF n x := by
    rw [htk]; simp [jnT, prR]
   (refine AA (AI rfl ?_) <;> (refine Bn rfl rfl (fun hc => ?_) (fun hc => ?_) <;> try omega))
   repeat' first | refine nx rfl ?_ | refine nf rfl ?_
   (refine AA (AT rfl (AD rfl ?_)) <;> refine AG rfl (by assumption) ?_ <;> refine AI rfl ?_)
   refine BP rfl rfl rfl (by omega) ?_
   refine AU (L := cx) rfl (hFA.2.1 cx (List.mem_of_getElem? hcx)) hcx2 ?_
   (refine AI rfl ?_)
   refine AR (rat_ok (hT x hxm) hxo (by omega) n w2 _ hfx) rfl ?_
   rintro _ w3 ⟨rfl, k3⟩
   refine Ar rfl rfl (by (try simp only [List.length_append]); omega) ?_
   ((refine AB ?_; refine AT rfl ?_))
   repeat' first | refine nx rfl ?_ | fail
   (refine AA (AI rfl ?_) <;> refine BD rfl rfl (by first | exact Ah (by omega) (by omega) | exact Aq (by omega) (by omega) | exact Ai (by omega) (by omega)) ?_ <;> refine AB (AI rfl ?_))
   repeat' first | refine nx rfl ?_ | fail
   refine ⟨0 + 1, ⟨rfl, ⟨rfl, rfl, rfl, (by rw [hnew]; rfl), (by show Value.int .i64 (((0 : Nat) : Int) + 1) = _; rw [Int.natCast_add]; rfl), trivial⟩, ⟨hlt, k2.trans k3⟩⟩, by omega⟩
 ·(refine AA (AI rfl (AD rfl ?_)) <;> refine AG rfl (by assumption) ?_ <;> refine Ao rfl ?_ <;> (refine As rfl rfl (fun hc => ?_) (fun hc => ?_) <;> try omega))
  repeat' first | refine nx rfl ?_ | refine nf rfl ?_
  refine AA (AT rfl (AB (AT rfl ?_)))
  repeat' first | refine nx rfl ?_ | fail
  rw [List.take_of_length_le (by omega)]
  exact AL rfl ⟨rfl, k1.trans k2⟩
theorem sg_in {f : Fml} (h : f.op = 9 ∨ f.op = 10 ∨ f.op = 16 ∨ f.op = 17) : sgT f.op f.name f.val f.bound = [32] ++ (rsgT f.op f.val f.bound ++ [32]) := by
 rcases h with h | h | h | h <;> rw [h]
 ·rfl
 ·rfl
 ·by_cases hv : f.val = 0
  ·simp [sgT, rsgT, rixT, CO, BS, styL, List.lookup, hv]
  ·simp [sgT, rsgT, rixT, CO, BS, styL, List.lookup, hv]
 ·by_cases hv : f.val = 1
  ·simp [sgT, rsgT, rixT, CO, BS, styL, List.lookup, hv]
  ·simp [sgT, rsgT, rixT, CO, BS, styL, List.lookup, hv]
theorem sg_pre {f : Fml} (h : f.op = 8 ∨ f.op = 11 ∨ f.op = 12 ∨ f.op = 13 ∨ f.op = 14 ∨ f.op = 15 ∨ f.op = 18 ∨ f.op = 19) (hv : f.op = 15 → f.val = 0 ∨ f.val = 1) : sgT f.op f.name f.val f.bound = rsgT f.op f.val f.bound ++ [32] := by
 rcases h with h | h | h | h | h | h | h | h
 ·rw [h]; rfl
 ·rw [h]; rfl
 ·rw [h]; rfl
 ·rw [h]; simp [sgT, rsgT, CO, BS, styL, List.lookup]
 ·rw [h]; simp [sgT, rsgT, CO, BS, styL, List.lookup]
 ·rcases hv h with h1 | h1 <;> rw [h] <;> simp [sgT, rsgT, h1]
 ·rw [h]; rfl
 ·rw [h]; rfl
theorem prF_one {f : Fml} {a : Fml} (h : f.args = [a]) : prF 0 f = sgT f.op f.name f.val f.bound ++ prF (CO f.op).first a := by
 cases f; simp only [Fml.args] at h; subst h; simp [prF, prA, prR, wrapT, Fml.op, Fml.name, Fml.val, Fml.bound]
theorem prF_two {f : Fml} {a c : Fml} (h : f.args = [a, c]) : prF 0 f = prF (CO f.op).first a ++ (sgT f.op f.name f.val f.bound ++ prF (CO f.op).next c) := by
 cases f; simp only [Fml.args] at h; subst h; simp [prF, prA, prR, wrapT, Fml.op, Fml.name, Fml.val, Fml.bound]
theorem prF_many {f : Fml} {n : Nat} {sep : List UInt8} (hn : 2 ≤ f.args.length) (h1 : (CO f.op).first = n) (h2 : (CO f.op).next = n) (h3 : sgT f.op f.name f.val f.bound = sep) : prF 0 f = jnT n sep f.args := by
 cases f with
 | mk op nm v b args =>
  simp only [Fml.op, Fml.args, Fml.name, Fml.val, Fml.bound] at *
  match args, hn with
  | a :: c :: l, _ => simp [prF, prA, wrapT, jnT, h1, h2, h3]
theorem prF_none {f : Fml} (h : f.args = []) : prF 0 f = sgT f.op f.name f.val f.bound := by
 cases f; simp only [Fml.args] at h; subst h; simp [prF, prA, wrapT, Fml.op, Fml.name, Fml.val, Fml.bound]
set_option maxHeartbeats 3200000 in
set_option maxRecDepth 4000 in
theorem rtext_ok : ∀ (N : Nat) (f : Fml), szF f ≤ N → szF f ≤ 1000000 → okF f = true → TextOk f := by
 intro N
 induction N with
 | zero => intro f hN; have := Cw f; omega
 | succ N ih =>
 intro f hN hz hok w v hf
 have hk := hok
 rw [okF_eq, Bool.and_eq_true] at hk
 obtain ⟨hnode, hargs⟩ := hk
 obtain ⟨s, hs, hle, hmo, hv0, hv9, hb0, hb9, h3n, _⟩ := node_parts hnode
 have esd := styD_of hs
 have hsv : s.val ≤ 9999 ∧ s.bound ≤ 9999 := by
  rcases op_cases hs with h | h | h | h | h | h | h | h | h | h | h | h | h | h | h | h | h | h | h <;> rw [h] at hs <;> simp [BS, styL, List.lookup] at hs <;> subst hs <;> decide
 have hsz := szF_eq f
 have hA : ∀ a ∈ f.args, TextOk a ∧ okF a = true ∧ szF a ≤ 1000000 ∧ szF a ≤ szL f.args := fun a ha => by
  have h1 := szL_mem ha
  have h2 := okL_mem hargs a ha
  exact ⟨ih a (by omega) (by omega) h2, h2, by omega, h1⟩
 obtain ⟨av, rfl, L, hS, hFA⟩ := hf.form
 obtain ⟨a, c, rfl, hS'⟩ := id hS
 refine Aa Tryz.func45 rfl Tryz.ntmps45 (Nat.le_of_ble_eq_true rfl) (by kernel_rfl) ?_
 repeat' first | refine nx rfl ?_ | fail
 (refine AA ?_; refine BL (L := fcC f (.slice a f.args.length c)) rfl (fun w1 n1 => ?_))
 have b1 := n1.blk
 have k1 := n1.keep
 have hf1 := hf.ext k1
 have c0 : w1.cell? ⟨w.heap.size, 0 + 0, none⟩ = some (.int .i64 f.op) := b1.cell rfl
 have c1 : w1.cell? ⟨w.heap.size, 0 + 1, none⟩ = some (AM f.name) := b1.cell rfl
 have c2 : w1.cell? ⟨w.heap.size, 0 + 2, none⟩ = some (.int .i64 f.val) := b1.cell rfl
 have c4 : w1.cell? ⟨w.heap.size, 0 + 4, none⟩ = some (.slice a f.args.length c) := b1.cell rfl
 have hcl : Cells w1 w.heap.size 0 (fcC f (.slice a f.args.length c)) := b1.cells
 have harg : ∀ {j : Nat} {x : Fml}, f.args[j]? = some x → ∃ ba oa cx, a = some ⟨ba, oa, none⟩ ∧ cx.length = 5 ∧ Cells w1 ba (oa + j * 5) cx ∧ FAt Aw w1 (.agg cx.toArray) x := by
  intro j x hx
  have hlt := (List.getElem?_eq_some_iff.1 hx).1
  obtain ⟨cx, hcx⟩ : ∃ cx, L[j]? = some cx := ⟨_, List.getElem?_eq_getElem (by rw [hFA.1]; exact hlt)⟩
  obtain ⟨ba, oa, rfl, _, hcellx⟩ := hS.fml hFA.2.1 hcx hlt
  exact ⟨ba, oa, cx, rfl, hFA.2.1 cx (List.mem_of_getElem? hcx), hcellx.keep k1 (by simp), (hFA.2.2 j cx x hcx hx).ext k1⟩
 ((refine AB ?_; refine AT rfl ?_))
 repeat' first | refine nx rfl ?_ | fail
 by_cases h1 : f.op = 1
 ·have h0 : f.args = [] := by rw [h1] at hs; simp [BS, styL, List.lookup] at hs; rw [← hs] at hmo; simp only at hmo; exact List.length_eq_zero_iff.1 (by omega)
  (refine AA (AD rfl ?_) <;> refine AG rfl (Blk.cell (by assumption) (by rfl)) ?_)
  repeat' first | refine nx rfl ?_ | fail
  (refine AA ?_ <;> (refine AH rfl rfl (fun hc => ?_) (fun hc => ?_) <;> try omega) <;> refine AB (AC rfl ?_))
  repeat' first | refine nx rfl ?_ | fail
  refine AA (AB (AT rfl ?_))
  repeat' first | refine nx rfl ?_ | fail
  exact AL rfl ⟨by rw [prF_none h0, h1]; rfl, k1⟩
 by_cases h2 : f.op = 2
 ·have h0 : f.args = [] := by rw [h2] at hs; simp [BS, styL, List.lookup] at hs; rw [← hs] at hmo; simp only at hmo; exact List.length_eq_zero_iff.1 (by omega)
  (refine AA (AD rfl ?_) <;> refine AG rfl (Blk.cell (by assumption) (by rfl)) ?_)
  repeat' first | refine nx rfl ?_ | fail
  (refine AA ?_ <;> (refine AH rfl rfl (fun hc => ?_) (fun hc => ?_) <;> try omega) <;> refine AB (AC rfl ?_))
  repeat' first | refine nx rfl ?_ | refine nf rfl ?_
  (refine AA ?_ <;> (refine AH rfl rfl (fun hc => ?_) (fun hc => ?_) <;> try omega) <;> refine AB (AC rfl ?_))
  repeat' first | refine nx rfl ?_ | fail
  refine AA (AB (AT rfl ?_))
  repeat' first | refine nx rfl ?_ | fail
  exact AL rfl ⟨by rw [prF_none h0, h2]; rfl, k1⟩
 by_cases h3 : f.op = 3
 ·have h0 : f.args = [] := by rw [h3] at hs; simp [BS, styL, List.lookup] at hs; rw [← hs] at hmo; simp only at hmo; exact List.length_eq_zero_iff.1 (by omega)
  by_cases hv1 : f.val = 1
  ·have e : prF 0 f = f.name := by rw [prF_none h0]; simp [sgT, h3, hv1]
   (refine AA (AD rfl ?_) <;> refine AG rfl (Blk.cell (by assumption) (by rfl)) ?_)
   repeat' first | refine nx rfl ?_ | fail
   (refine AA ?_ <;> (refine AH rfl rfl (fun hc => ?_) (fun hc => ?_) <;> try omega) <;> refine AB (AC rfl ?_))
   repeat' first | refine nx rfl ?_ | refine nf rfl ?_
   (refine AA ?_ <;> (refine AH rfl rfl (fun hc => ?_) (fun hc => ?_) <;> try omega) <;> refine AB (AC rfl ?_))
   repeat' first | refine nx rfl ?_ | refine nf rfl ?_
   (refine AA ?_ <;> (refine AH rfl rfl (fun hc => ?_) (fun hc => ?_) <;> try omega) <;> refine AB (AC rfl ?_))
   repeat' first | refine nx rfl ?_ | fail
   (refine AA (AD rfl ?_) <;> refine AG rfl (Blk.cell (by assumption) (by rfl)) ?_ <;> (refine AH rfl rfl (fun hc => ?_) (fun hc => ?_) <;> try omega))
   repeat' first | refine nx rfl ?_ | fail
   (refine AA (AD rfl ?_) <;> refine AG rfl (Blk.cell (by assumption) (by rfl)) ?_ <;> refine AB (AT rfl ?_))
   repeat' first | refine nx rfl ?_ | fail
   exact AL rfl ⟨by rw [e]; rfl, k1⟩
  ·have e : prF 0 f = f.name ++ [61] ++ numT f.val := by rw [prF_none h0]; simp [sgT, h3, hv1]
   (refine AA (AD rfl ?_) <;> refine AG rfl (Blk.cell (by assumption) (by rfl)) ?_)
   repeat' first | refine nx rfl ?_ | fail
   (refine AA ?_ <;> (refine AH rfl rfl (fun hc => ?_) (fun hc => ?_) <;> try omega) <;> refine AB (AC rfl ?_))
   repeat' first | refine nx rfl ?_ | refine nf rfl ?_
   (refine AA ?_ <;> (refine AH rfl rfl (fun hc => ?_) (fun hc => ?_) <;> try omega) <;> refine AB (AC rfl ?_))
   repeat' first | refine nx rfl ?_ | refine nf rfl ?_
   (refine AA ?_ <;> (refine AH rfl rfl (fun hc => ?_) (fun hc => ?_) <;> try omega) <;> refine AB (AC rfl ?_))
   repeat' first | refine nx rfl ?_ | fail
   (refine AA (AD rfl ?_) <;> refine AG rfl (Blk.cell (by assumption) (by rfl)) ?_ <;> (refine AH rfl rfl (fun hc => ?_) (fun hc => ?_) <;> try omega))
   repeat' first | refine nx rfl ?_ | refine nf rfl ?_
   have hnl := (BB (h3n h3)).2.1
   have hnn := CB (n := f.val) (by omega)
   refine BA (.read 0 (.read 1 (.read 2 (.read 3 (.read 4 (.alt 5 (.read 6 (.read 7 .done)) .stop)))))) A6 (by kernel_rfl) (fun wd kd ed => ⟨Ext wd, ?_, ?_⟩)
   ·exact Ext.refl _
   have d1 : ∀ W, Ext wd W → W.cell? ⟨w.heap.size, 0 + 1, none⟩ = some (AM f.name) := fun W e => (kd.trans e).cell c1 (by simp)
   have d2 : ∀ W, Ext wd W → W.cell? ⟨w.heap.size, 0 + 2, none⟩ = some (.int .i64 f.val) := fun W e => (kd.trans e).cell c2 (by simp)
   ((apply D_R rfl rfl; (intro W hW; refine AD rfl ?_; exact AE ⟨rfl, rfl, rfl⟩)) <;> (apply D_R rfl rfl; (intro W hW; refine AG rfl (d1 W hW) ?_; exact AE ⟨rfl, rfl, rfl⟩)))
   (apply D_R rfl rfl; (intro W hW; (refine Ar rfl rfl (by (try simp); omega) ?_); exact AE ⟨rfl, rfl, rfl⟩))
   ((apply D_R rfl rfl; (intro W hW; refine AD rfl ?_; exact AE ⟨rfl, rfl, rfl⟩)) <;> (apply D_R rfl rfl; (intro W hW; refine AG rfl (d2 W hW) ?_; exact AE ⟨rfl, rfl, rfl⟩)))
   refine D_E rfl ?_
   refine AR (rdigits_ok wd f.val hv0 (by omega)) rfl ?_
   rintro _ w3 ⟨rfl, rfl⟩
   refine AE ⟨_, fun _ e => e, Ext.refl _, ?_⟩
   (apply D_R rfl rfl; (intro W hW; (refine Ar rfl rfl (by (try simp); omega) ?_); exact AE ⟨rfl, rfl, rfl⟩))
   ((apply D_R rfl rfl; (intro W hW; (refine AB ?_; refine AT rfl ?_); exact AE ⟨rfl, rfl, rfl⟩)) <;> refine A0 ?_)
   repeat' first | refine nx rfl ?_ | fail
   exact AL rfl ⟨by rw [e]; rfl, k1.trans kd⟩
 by_cases h4 : f.op = 4
 ·obtain ⟨x, hx⟩ : ∃ x, f.args = [x] := by rw [h4] at hs; simp [BS, styL, List.lookup] at hs; rw [← hs] at hmo hle; exact one_of hle hmo
  obtain ⟨hTx, hox, hzx, _⟩ := hA x (by rw [hx]; simp)
  obtain ⟨ba, oa, cx, rfl, hcx5, hccx, hfx⟩ := harg (j := 0) (x := x) (by rw [hx]; rfl)
  have hxl := Ce hox 4
  have hlen : f.args.length = 1 := by rw [hx]; rfl
  (refine AA (AD rfl ?_) <;> refine AG rfl (Blk.cell (by assumption) (by rfl)) ?_)
  repeat' first | refine nx rfl ?_ | fail
  (refine AA ?_ <;> (refine AH rfl rfl (fun hc => ?_) (fun hc => ?_) <;> try omega) <;> refine AB (AC rfl ?_))
  repeat' first | refine nx rfl ?_ | refine nf rfl ?_
  (refine AA ?_ <;> (refine AH rfl rfl (fun hc => ?_) (fun hc => ?_) <;> try omega) <;> refine AB (AC rfl ?_))
  repeat' first | refine nx rfl ?_ | refine nf rfl ?_
  (refine AA ?_ <;> (refine AH rfl rfl (fun hc => ?_) (fun hc => ?_) <;> try omega) <;> refine AB (AC rfl ?_))
  repeat' first | refine nx rfl ?_ | refine nf rfl ?_
  (refine AA ?_ <;> (refine AH rfl rfl (fun hc => ?_) (fun hc => ?_) <;> try omega) <;> refine AB (AC rfl ?_))
  repeat' first | refine nx rfl ?_ | fail
  (refine AA (AD rfl ?_) <;> refine AG rfl (Blk.cell (by assumption) (by rfl)) ?_)
  refine BP (k := 0) rfl rfl rfl (by omega) ?_
  refine AU (L := cx) rfl hcx5 hccx ?_
  refine AR (rat_ok hTx hox hzx 4 w1 _ hfx) rfl ?_
  rintro _ w3 ⟨rfl, k3⟩
  refine Ar rfl rfl (by simp; omega) ?_
  ((refine AB ?_; refine AT rfl ?_))
  repeat' first | refine nx rfl ?_ | fail
  exact AL rfl ⟨by rw [prF_one hx, h4]; rfl, k1.trans k3⟩
 by_cases h7 : f.op = 7
 ·obtain ⟨x, y, hxy⟩ : ∃ x y, f.args = [x, y] := by rw [h7] at hs; simp [BS, styL, List.lookup] at hs; rw [← hs] at hmo hle; exact two_of hle hmo
  obtain ⟨hTx, hox, hzx, _⟩ := hA x (by rw [hxy]; simp)
  obtain ⟨hTy, hoy, hzy, _⟩ := hA y (by rw [hxy]; simp)
  obtain ⟨ba, oa, cx, rfl, hcx5, hccx, hfx⟩ := harg (j := 0) (x := x) (by rw [hxy]; rfl)
  obtain ⟨_, _, cy, e, hcy5, hccy, hfy⟩ := harg (j := 1) (x := y) (by rw [hxy]; rfl)
  cases e
  have hxl := Ce hox 1
  have hyl := Ce hoy 0
  have hlen : f.args.length = 2 := by rw [hxy]; rfl
  (refine AA (AD rfl ?_) <;> refine AG rfl (Blk.cell (by assumption) (by rfl)) ?_)
  repeat' first | refine nx rfl ?_ | fail
  (refine AA ?_ <;> (refine AH rfl rfl (fun hc => ?_) (fun hc => ?_) <;> try omega) <;> refine AB (AC rfl ?_))
  repeat' first | refine nx rfl ?_ | refine nf rfl ?_
  (refine AA ?_ <;> (refine AH rfl rfl (fun hc => ?_) (fun hc => ?_) <;> try omega) <;> refine AB (AC rfl ?_))
  repeat' first | refine nx rfl ?_ | refine nf rfl ?_
  (refine AA ?_ <;> (refine AH rfl rfl (fun hc => ?_) (fun hc => ?_) <;> try omega) <;> refine AB (AC rfl ?_))
  repeat' first | refine nx rfl ?_ | refine nf rfl ?_
  (refine AA ?_ <;> (refine AH rfl rfl (fun hc => ?_) (fun hc => ?_) <;> try omega) <;> refine AB (AC rfl ?_))
  repeat' first | refine nx rfl ?_ | refine nf rfl ?_
  (refine AA ?_ <;> (refine AH rfl rfl (fun hc => ?_) (fun hc => ?_) <;> try omega) <;> refine AB (AC rfl ?_))
  repeat' first | refine nx rfl ?_ | fail
  refine BA (.read 0 (.read 1 (.read 2 (.read 3 (.read 6 (.read 7 (.read 8 (.read 9 (.alt 4 (.read 5 (.alt 10 (.read 11 (.read 12 .done)) .stop)) .stop))))))))) A6 (by kernel_rfl) (fun wd kd ed => ⟨Ext wd, ?_, ?_⟩)
  ·exact Ext.refl _
  have d4 : ∀ W, Ext wd W → W.cell? ⟨w.heap.size, 0 + 4, none⟩ = some (.slice (some ⟨ba, oa, none⟩) f.args.length c) := fun W e => (kd.trans e).cell c4 (by simp)
  have dx : ∀ W, Ext wd W → cx.length = 5 ∧ Cells W ba (oa + 0 * 5) cx := fun W e => ⟨hcx5, hccx.keep (kd.trans e) (by simp)⟩
  have dy : ∀ W, Ext wd W → cy.length = 5 ∧ Cells W ba (oa + 1 * 5) cy := fun W e => ⟨hcy5, hccy.keep (kd.trans e) (by simp)⟩
  ((apply D_R rfl rfl; (intro W hW; refine AD rfl ?_; exact AE ⟨rfl, rfl, rfl⟩)) <;> (apply D_R rfl rfl; (intro W hW; refine AG rfl (d4 W hW) ?_; exact AE ⟨rfl, rfl, rfl⟩)))
  (apply D_R rfl rfl; (intro W hW; (refine BP (k := 0) rfl rfl rfl (by omega) ?_); exact AE ⟨rfl, rfl, rfl⟩))
  (apply D_R rfl rfl; (intro W hW; (refine AU rfl (dx W hW).1 (dx W hW).2 ?_); exact AE ⟨rfl, rfl, rfl⟩))
  ((apply D_R rfl rfl; (intro W hW; refine AD rfl ?_; exact AE ⟨rfl, rfl, rfl⟩)) <;> (apply D_R rfl rfl; (intro W hW; refine AG rfl (d4 W hW) ?_; exact AE ⟨rfl, rfl, rfl⟩)))
  (apply D_R rfl rfl; (intro W hW; (refine BP (k := 1) rfl rfl rfl (by omega) ?_); exact AE ⟨rfl, rfl, rfl⟩))
  (apply D_R rfl rfl; (intro W hW; (refine AU rfl (dy W hW).1 (dy W hW).2 ?_); exact AE ⟨rfl, rfl, rfl⟩))
  refine D_E rfl ?_
  refine AR (rat_ok hTx hox hzx 1 wd _ (hfx.ext kd)) rfl ?_
  rintro _ w3 ⟨rfl, k3⟩
  refine AE ⟨Ext w3, fun _ e => k3.trans e, Ext.refl _, ?_⟩
  (apply D_R rfl rfl; (intro W hW; (refine Ar rfl rfl (by (try simp); omega) ?_); exact AE ⟨rfl, rfl, rfl⟩))
  refine D_E rfl ?_
  refine AR (rat_ok hTy hoy hzy 0 w3 _ (hfy.ext (kd.trans k3))) rfl ?_
  rintro _ w4 ⟨rfl, k4⟩
  refine AE ⟨Ext w4, fun _ e => k4.trans e, Ext.refl _, ?_⟩
  (apply D_R rfl rfl; (intro W hW; (refine Ar rfl rfl (by (try simp); omega) ?_); exact AE ⟨rfl, rfl, rfl⟩))
  ((apply D_R rfl rfl; (intro W hW; (refine AB ?_; refine AT rfl ?_); exact AE ⟨rfl, rfl, rfl⟩)) <;> refine A0 ?_)
  repeat' first | refine nx rfl ?_ | fail
  exact AL rfl ⟨by rw [prF_two hxy, h7, List.append_assoc]; rfl, ((k1.trans kd).trans k3).trans k4⟩
 by_cases h6 : f.op = 6
 ·have hn2 : 2 ≤ f.args.length := by rw [h6] at hs; simp [BS, styL, List.lookup] at hs; rw [← hs] at hle; exact hle
  have e : prF 0 f = jnT 2 [32, 124, 32] f.args := prF_many hn2 (by rw [h6]; rfl) (by rw [h6]; rfl) (by rw [h6]; rfl)
  (refine AA (AD rfl ?_) <;> refine AG rfl (Blk.cell (by assumption) (by rfl)) ?_)
  repeat' first | refine nx rfl ?_ | fail
  (refine AA ?_ <;> (refine AH rfl rfl (fun hc => ?_) (fun hc => ?_) <;> try omega) <;> refine AB (AC rfl ?_))
  repeat' first | refine nx rfl ?_ | refine nf rfl ?_
  (refine AA ?_ <;> (refine AH rfl rfl (fun hc => ?_) (fun hc => ?_) <;> try omega) <;> refine AB (AC rfl ?_))
  repeat' first | refine nx rfl ?_ | refine nf rfl ?_
  (refine AA ?_ <;> (refine AH rfl rfl (fun hc => ?_) (fun hc => ?_) <;> try omega) <;> refine AB (AC rfl ?_))
  repeat' first | refine nx rfl ?_ | refine nf rfl ?_
  (refine AA ?_ <;> (refine AH rfl rfl (fun hc => ?_) (fun hc => ?_) <;> try omega) <;> refine AB (AC rfl ?_))
  repeat' first | refine nx rfl ?_ | refine nf rfl ?_
  (refine AA ?_ <;> (refine AH rfl rfl (fun hc => ?_) (fun hc => ?_) <;> try omega) <;> refine AB (AC rfl ?_))
  repeat' first | refine nx rfl ?_ | refine nf rfl ?_
  (refine AA ?_ <;> (refine AH rfl rfl (fun hc => ?_) (fun hc => ?_) <;> try omega) <;> refine AB (AC rfl ?_))
  repeat' first | refine nx rfl ?_ | fail
  (refine AA ?_; refine AW (L := fcC f (.slice a f.args.length c)) rfl b1 rfl ?_)
  refine AR (rjoined_ok f (fun x hx => (hA x hx).1) hargs hz 2 [32, 124, 32] (by simp) w1 _ hf1) rfl ?_
  rintro _ w3 ⟨rfl, k3⟩
  ((refine AB ?_; refine AT rfl ?_))
  repeat' first | refine nx rfl ?_ | fail
  exact AL rfl ⟨by rw [e]; rfl, k1.trans k3⟩
 by_cases h5 : f.op = 5
 ·have hn2 : 2 ≤ f.args.length := by rw [h5] at hs; simp [BS, styL, List.lookup] at hs; rw [← hs] at hle; exact hle
  have e : prF 0 f = jnT 3 [32, 38, 32] f.args := prF_many hn2 (by rw [h5]; rfl) (by rw [h5]; rfl) (by rw [h5]; rfl)
  (refine AA (AD rfl ?_) <;> refine AG rfl (Blk.cell (by assumption) (by rfl)) ?_)
  repeat' first | refine nx rfl ?_ | fail
  (refine AA ?_ <;> (refine AH rfl rfl (fun hc => ?_) (fun hc => ?_) <;> try omega) <;> refine AB (AC rfl ?_))
  repeat' first | refine nx rfl ?_ | refine nf rfl ?_
  (refine AA ?_ <;> (refine AH rfl rfl (fun hc => ?_) (fun hc => ?_) <;> try omega) <;> refine AB (AC rfl ?_))
  repeat' first | refine nx rfl ?_ | refine nf rfl ?_
  (refine AA ?_ <;> (refine AH rfl rfl (fun hc => ?_) (fun hc => ?_) <;> try omega) <;> refine AB (AC rfl ?_))
  repeat' first | refine nx rfl ?_ | refine nf rfl ?_
  (refine AA ?_ <;> (refine AH rfl rfl (fun hc => ?_) (fun hc => ?_) <;> try omega) <;> refine AB (AC rfl ?_))
  repeat' first | refine nx rfl ?_ | refine nf rfl ?_
  (refine AA ?_ <;> (refine AH rfl rfl (fun hc => ?_) (fun hc => ?_) <;> try omega) <;> refine AB (AC rfl ?_))
  repeat' first | refine nx rfl ?_ | refine nf rfl ?_
  (refine AA ?_ <;> (refine AH rfl rfl (fun hc => ?_) (fun hc => ?_) <;> try omega) <;> refine AB (AC rfl ?_))
  repeat' first | refine nx rfl ?_ | refine nf rfl ?_
  (refine AA ?_ <;> (refine AH rfl rfl (fun hc => ?_) (fun hc => ?_) <;> try omega) <;> refine AB (AC rfl ?_))
  repeat' first | refine nx rfl ?_ | fail
  (refine AA ?_; refine AW (L := fcC f (.slice a f.args.length c)) rfl b1 rfl ?_)
  refine AR (rjoined_ok f (fun x hx => (hA x hx).1) hargs hz 3 [32, 38, 32] (by simp) w1 _ hf1) rfl ?_
  rintro _ w3 ⟨rfl, k3⟩
  ((refine AB ?_; refine AT rfl ?_))
  repeat' first | refine nx rfl ?_ | fail
  exact AL rfl ⟨by rw [e]; rfl, k1.trans k3⟩
 have hrest : (f.op = 9 ∨ f.op = 10 ∨ f.op = 16 ∨ f.op = 17) ∨ (f.op = 8 ∨ f.op = 11 ∨ f.op = 12 ∨ f.op = 13 ∨ f.op = 14 ∨ f.op = 15 ∨ f.op = 18 ∨ f.op = 19) := by
  rcases op_cases hs with h | h | h | h | h | h | h | h | h | h | h | h | h | h | h | h | h | h | h
  all_goals first | exact absurd h (by assumption) | (simp [h])
 have hrl : (rsgT f.op f.val f.bound).length ≤ 20 := by
  have := sgT_len hnode
  rcases hrest with h | h
  ·rw [sg_in h] at this; simp at this; omega
  ·rw [sg_pre h (fun h15 => by rw [h15] at hs; simp [BS, styL, List.lookup] at hs; rw [← hs] at hv9; simp only at hv9; omega)] at this; simp at this; omega
 have hsgn : ∀ W, Ext w1 W → Fn Tryz.prog 81 [.agg (fcC f (.slice a f.args.length c)).toArray] W fun v w' => v = AM (rsgT f.op f.val f.bound) ∧ Ext W w' := fun W _ => rsign_ok W f _ ⟨by omega, hv0, by omega, hb0⟩
 (refine AA (AD rfl ?_) <;> refine AG rfl (Blk.cell (by assumption) (by rfl)) ?_)
 repeat' first | refine nx rfl ?_ | fail
 (refine AA ?_ <;> (refine AH rfl rfl (fun hc => ?_) (fun hc => ?_) <;> try omega) <;> refine AB (AC rfl ?_))
 repeat' first | refine nx rfl ?_ | refine nf rfl ?_
 (refine AA ?_ <;> (refine AH rfl rfl (fun hc => ?_) (fun hc => ?_) <;> try omega) <;> refine AB (AC rfl ?_))
 repeat' first | refine nx rfl ?_ | refine nf rfl ?_
 (refine AA ?_ <;> (refine AH rfl rfl (fun hc => ?_) (fun hc => ?_) <;> try omega) <;> refine AB (AC rfl ?_))
 repeat' first | refine nx rfl ?_ | refine nf rfl ?_
 (refine AA ?_ <;> (refine AH rfl rfl (fun hc => ?_) (fun hc => ?_) <;> try omega) <;> refine AB (AC rfl ?_))
 repeat' first | refine nx rfl ?_ | refine nf rfl ?_
 (refine AA ?_ <;> (refine AH rfl rfl (fun hc => ?_) (fun hc => ?_) <;> try omega) <;> refine AB (AC rfl ?_))
 repeat' first | refine nx rfl ?_ | refine nf rfl ?_
 (refine AA ?_ <;> (refine AH rfl rfl (fun hc => ?_) (fun hc => ?_) <;> try omega) <;> refine AB (AC rfl ?_))
 repeat' first | refine nx rfl ?_ | refine nf rfl ?_
 (refine AA ?_ <;> (refine AH rfl rfl (fun hc => ?_) (fun hc => ?_) <;> try omega) <;> refine AB (AC rfl ?_))
 repeat' first | refine nx rfl ?_ | refine nf rfl ?_
 rcases hrest with hin | hpre
 ·obtain ⟨x, y, hxy⟩ : ∃ x y, f.args = [x, y] := by
   have : s.least = 2 ∧ s.most = 2 := by rcases hin with h | h | h | h <;> rw [h] at hs <;> simp [BS, styL, List.lookup] at hs <;> subst hs <;> exact ⟨rfl, rfl⟩
   exact two_of (by omega) (by omega)
  have hfn : (CO f.op).first = 4 ∧ (CO f.op).next = 3 := by rcases hin with h | h | h | h <;> rw [h] <;> exact ⟨rfl, rfl⟩
  obtain ⟨hTx, hox, hzx, _⟩ := hA x (by rw [hxy]; simp)
  obtain ⟨hTy, hoy, hzy, _⟩ := hA y (by rw [hxy]; simp)
  obtain ⟨ba, oa, cx, rfl, hcx5, hccx, hfx⟩ := harg (j := 0) (x := x) (by rw [hxy]; rfl)
  obtain ⟨_, _, cy, e, hcy5, hccy, hfy⟩ := harg (j := 1) (x := y) (by rw [hxy]; rfl)
  cases e
  have hxl := Ce hox 4
  have hyl := Ce hoy 3
  have hlen : f.args.length = 2 := by rw [hxy]; rfl
  (refine AA (AD rfl ?_) <;> refine AG rfl (Blk.cell (by assumption) (by rfl)) ?_ <;> refine Ao rfl ?_ <;> (refine AH rfl rfl (fun hc => ?_) (fun hc => ?_) <;> try omega))
  repeat' first | refine nx rfl ?_ | fail
  refine BA (.read 0 (.read 1 (.read 2 (.read 3 (.read 6 (.read 10 (.read 11 (.read 12 (.read 13 (.alt 4 (.read 5 (.alt 7 (.read 8 (.read 9 (.alt 14 (.read 15 (.read 16 .done)) .stop))) .stop)) .stop)))))))))) A6 (by kernel_rfl) (fun wd kd ed => ⟨Ext wd, ?_, ?_⟩)
  ·exact Ext.refl _
  have d4 : ∀ W, Ext wd W → W.cell? ⟨w.heap.size, 0 + 4, none⟩ = some (.slice (some ⟨ba, oa, none⟩) f.args.length c) := fun W e => (kd.trans e).cell c4 (by simp)
  have d0 : ∀ W, Ext wd W → Cells W w.heap.size 0 (fcC f (.slice (some ⟨ba, oa, none⟩) f.args.length c)) := fun W e => hcl.keep (kd.trans e) (by simp)
  have dx : ∀ W, Ext wd W → cx.length = 5 ∧ Cells W ba (oa + 0 * 5) cx := fun W e => ⟨hcx5, hccx.keep (kd.trans e) (by simp)⟩
  have dy : ∀ W, Ext wd W → cy.length = 5 ∧ Cells W ba (oa + 1 * 5) cy := fun W e => ⟨hcy5, hccy.keep (kd.trans e) (by simp)⟩
  ((apply D_R rfl rfl; (intro W hW; refine AD rfl ?_; exact AE ⟨rfl, rfl, rfl⟩)) <;> (apply D_R rfl rfl; (intro W hW; refine AG rfl (d4 W hW) ?_; exact AE ⟨rfl, rfl, rfl⟩)))
  (apply D_R rfl rfl; (intro W hW; (refine BP (k := 0) rfl rfl rfl (by omega) ?_); exact AE ⟨rfl, rfl, rfl⟩))
  (apply D_R rfl rfl; (intro W hW; (refine AU rfl (dx W hW).1 (dx W hW).2 ?_); exact AE ⟨rfl, rfl, rfl⟩))
  ((apply D_R rfl rfl; (intro W hW; refine AU rfl (by rfl) (d0 W hW) ?_; exact AE ⟨rfl, rfl, rfl⟩)) <;> (apply D_R rfl rfl; (intro W hW; refine AD rfl ?_; exact AE ⟨rfl, rfl, rfl⟩)) <;> (apply D_R rfl rfl; (intro W hW; refine AG rfl (d4 W hW) ?_; exact AE ⟨rfl, rfl, rfl⟩)))
  (apply D_R rfl rfl; (intro W hW; (refine BP (k := 1) rfl rfl rfl (by omega) ?_); exact AE ⟨rfl, rfl, rfl⟩))
  (apply D_R rfl rfl; (intro W hW; (refine AU rfl (dy W hW).1 (dy W hW).2 ?_); exact AE ⟨rfl, rfl, rfl⟩))
  refine D_E rfl ?_
  refine AR (rat_ok hTx hox hzx 4 wd _ (hfx.ext kd)) rfl ?_
  rintro _ w3 ⟨rfl, k3⟩
  refine AE ⟨Ext w3, fun _ e => k3.trans e, Ext.refl _, ?_⟩
  (apply D_R rfl rfl; (intro W hW; (refine Ar rfl rfl (by (try simp); omega) ?_); exact AE ⟨rfl, rfl, rfl⟩))
  refine D_E rfl ?_
  refine AR (hsgn w3 (kd.trans k3)) rfl ?_
  rintro _ w4 ⟨rfl, k4⟩
  refine AE ⟨Ext w4, fun _ e => k4.trans e, Ext.refl _, ?_⟩
  (apply D_R rfl rfl; (intro W hW; (refine Ar rfl rfl (by (try simp); omega) ?_); exact AE ⟨rfl, rfl, rfl⟩))
  (apply D_R rfl rfl; (intro W hW; (refine Ar rfl rfl (by (try simp); omega) ?_); exact AE ⟨rfl, rfl, rfl⟩))
  refine D_E rfl ?_
  refine AR (rat_ok hTy hoy hzy 3 w4 _ (hfy.ext ((kd.trans k3).trans k4))) rfl ?_
  rintro _ w5 ⟨rfl, k5⟩
  refine AE ⟨Ext w5, fun _ e => k5.trans e, Ext.refl _, ?_⟩
  (apply D_R rfl rfl; (intro W hW; (refine Ar rfl rfl (by (try simp); omega) ?_); exact AE ⟨rfl, rfl, rfl⟩))
  ((apply D_R rfl rfl; (intro W hW; (refine AB ?_; refine AT rfl ?_); exact AE ⟨rfl, rfl, rfl⟩)) <;> refine A0 ?_)
  repeat' first | refine nx rfl ?_ | fail
  exact AL rfl ⟨by rw [prF_two hxy, hfn.1, hfn.2, sg_in hin]; simp; rfl, (((k1.trans kd).trans k3).trans k4).trans k5⟩
 ·obtain ⟨x, hx⟩ : ∃ x, f.args = [x] := by
   have : s.least = 1 ∧ s.most = 1 := by rcases hpre with h | h | h | h | h | h | h | h <;> rw [h] at hs <;> simp [BS, styL, List.lookup] at hs <;> subst hs <;> exact ⟨rfl, rfl⟩
   exact one_of (by omega) (by omega)
  have hfn : (CO f.op).first = 4 := by rcases hpre with h | h | h | h | h | h | h | h <;> rw [h] <;> rfl
  have hsgp := sg_pre hpre (fun h15 => by rw [h15] at hs; simp [BS, styL, List.lookup] at hs; rw [← hs] at hv9; simp only at hv9; omega)
  obtain ⟨hTx, hox, hzx, _⟩ := hA x (by rw [hx]; simp)
  obtain ⟨ba, oa, cx, rfl, hcx5, hccx, hfx⟩ := harg (j := 0) (x := x) (by rw [hx]; rfl)
  have hxl := Ce hox 4
  have hlen : f.args.length = 1 := by rw [hx]; rfl
  (refine AA (AD rfl ?_) <;> refine AG rfl (Blk.cell (by assumption) (by rfl)) ?_ <;> refine Ao rfl ?_ <;> (refine AH rfl rfl (fun hc => ?_) (fun hc => ?_) <;> try omega))
  repeat' first | refine nx rfl ?_ | refine nf rfl ?_
  refine BA (.read 0 (.read 3 (.read 4 (.read 5 (.read 6 (.alt 1 (.read 2 (.alt 7 (.read 8 (.read 9 .done)) .stop)) .stop)))))) A6 (by kernel_rfl) (fun wd kd ed => ⟨Ext wd, ?_, ?_⟩)
  ·exact Ext.refl _
  have d4 : ∀ W, Ext wd W → W.cell? ⟨w.heap.size, 0 + 4, none⟩ = some (.slice (some ⟨ba, oa, none⟩) f.args.length c) := fun W e => (kd.trans e).cell c4 (by simp)
  have d0 : ∀ W, Ext wd W → Cells W w.heap.size 0 (fcC f (.slice (some ⟨ba, oa, none⟩) f.args.length c)) := fun W e => hcl.keep (kd.trans e) (by simp)
  have dx : ∀ W, Ext wd W → cx.length = 5 ∧ Cells W ba (oa + 0 * 5) cx := fun W e => ⟨hcx5, hccx.keep (kd.trans e) (by simp)⟩
  ((apply D_R rfl rfl; (intro W hW; refine AU rfl (by rfl) (d0 W hW) ?_; exact AE ⟨rfl, rfl, rfl⟩)) <;> (apply D_R rfl rfl; (intro W hW; refine AD rfl ?_; exact AE ⟨rfl, rfl, rfl⟩)) <;> (apply D_R rfl rfl; (intro W hW; refine AG rfl (d4 W hW) ?_; exact AE ⟨rfl, rfl, rfl⟩)))
  (apply D_R rfl rfl; (intro W hW; (refine BP (k := 0) rfl rfl rfl (by omega) ?_); exact AE ⟨rfl, rfl, rfl⟩))
  (apply D_R rfl rfl; (intro W hW; (refine AU rfl (dx W hW).1 (dx W hW).2 ?_); exact AE ⟨rfl, rfl, rfl⟩))
  refine D_E rfl ?_
  refine AR (hsgn wd kd) rfl ?_
  rintro _ w3 ⟨rfl, k3⟩
  refine AE ⟨Ext w3, fun _ e => k3.trans e, Ext.refl _, ?_⟩
  (apply D_R rfl rfl; (intro W hW; (refine Ar rfl rfl (by (try simp); omega) ?_); exact AE ⟨rfl, rfl, rfl⟩))
  refine D_E rfl ?_
  refine AR (rat_ok hTx hox hzx 4 w3 _ (hfx.ext (kd.trans k3))) rfl ?_
  rintro _ w4 ⟨rfl, k4⟩
  refine AE ⟨Ext w4, fun _ e => k4.trans e, Ext.refl _, ?_⟩
  (apply D_R rfl rfl; (intro W hW; (refine Ar rfl rfl (by (try simp); omega) ?_); exact AE ⟨rfl, rfl, rfl⟩))
  ((apply D_R rfl rfl; (intro W hW; (refine AB ?_; refine AT rfl ?_); exact AE ⟨rfl, rfl, rfl⟩)) <;> refine A0 ?_)
  repeat' first | refine nx rfl ?_ | fail
  exact AL rfl ⟨by rw [prF_one hx, hfn, hsgp]; rfl, ((k1.trans kd).trans k3).trans k4⟩
end Go.Proofs.YtfcgdbmoncnibaaGreatDoor
namespace Go.Proofs.YtfcgdbmoncnibaaGreatDoor
open Go.RowKit
set_option linter.unusedVariables false
theorem req_parts {ok : Nat → Prop} {w : World} {d : List Value} {r : Rqm} (h : reqR.fits ok w d r) : ∃ d5 : List Value, d = [AM r.part, AM r.name, .int .i64 r.kind] ++ d5 ∧ d5.length = 5 ∧ FAt ok w (.agg d5.toArray) r.formula := h
theorem Cy {w : World} {b o : Nat} {l m : List Value} (h : Cells w b o (l ++ m)) {k : Nat} (hk : l.length = k) : Cells w b (o + k) m := by
 intro i u hu
 subst hk
 have := h (l.length + i) u (by rw [List.getElem?_append_right (by omega)]; simpa using hu)
 rw [← Nat.add_assoc] at this
 exact this
theorem rformula_ok (w : World) (v : Value) (f : Fml) (hf : FAt Aw w v f) (hz : szF f ≤ 1000000) : Fn Tryz.prog 15 [v] w fun u w' => u = AM (if okF f then prF 0 f else []) ∧ Ext w w' := by
 obtain ⟨av, rfl, L, hS, hFA⟩ := hf.form
 refine Aa Tryz.func15 rfl Tryz.ntmps15 (Nat.le_of_ble_eq_true rfl) (by kernel_rfl) ?_
 repeat' first | refine nx rfl ?_ | fail
 (refine AA ?_; refine BL (L := fcC f av) rfl (fun w1 n1 => ?_))
 have b1 := n1.blk
 have k1 := n1.keep
 ((refine AB ?_; refine AT rfl ?_))
 repeat' first | refine nx rfl ?_ | fail
 (refine AA ?_; refine AW (L := fcC f av) rfl b1 rfl ?_)
 refine AR (printable_ok _ f (Nat.le_refl _) hz w1 _ (hf.ext k1)) rfl ?_
 rintro _ w2 ⟨rfl, k2⟩
 generalize hok : okF f = ok
 refine A4 rfl ?_
 cases ok with
 | false =>
  rw [Bool.not_false]
  repeat' first | refine nx rfl ?_ | fail
  refine AA (AB (AT rfl ?_))
  repeat' first | refine nx rfl ?_ | fail
  exact AL rfl ⟨rfl, k1.trans k2⟩
 | true =>
  rw [Bool.not_true]
  repeat' first | refine nx rfl ?_ | refine nf rfl ?_
  have b2 := b1.keep k2 (by simp)
  (refine AA ?_; refine AW (L := fcC f av) rfl b2 rfl ?_)
  refine AR (rtext_ok _ f (Nat.le_refl _) hz hok w2 _ (hf.ext (k1.trans k2))) rfl ?_
  rintro _ w3 ⟨rfl, k3⟩
  ((refine AB ?_; refine AT rfl ?_))
  repeat' first | refine nx rfl ?_ | fail
  exact AL rfl ⟨rfl, (k1.trans k2).trans k3⟩
set_option maxHeartbeats 1600000 in
theorem rprintReq_ok (w : World) (d : List Value) (r : Rqm) (hr : reqR.fits Aw w d r) (hz : szF r.formula ≤ 1000000) : Fn Tryz.prog 55 [.agg d.toArray] w fun u w' => u = .bool (okRq r) ∧ Ext w w' := by
 obtain ⟨d5, rfl, hd5, hfa⟩ := req_parts hr
 refine Aa Tryz.func55 rfl Tryz.ntmps55 (Nat.le_of_ble_eq_true rfl) (by kernel_rfl) ?_
 repeat' first | refine nx rfl ?_ | fail
 (refine AA ?_; refine BL (L := [AM r.part, AM r.name, .int .i64 r.kind] ++ d5) rfl (fun w1 n1 => ?_))
 have b1 := n1.blk
 have k1 := n1.keep
 have c0 : w1.cell? ⟨w.heap.size, 0 + 0, none⟩ = some (AM r.part) := b1.cell rfl
 have c1 : w1.cell? ⟨w.heap.size, 0 + 1, none⟩ = some (AM r.name) := b1.cell rfl
 have c2 : w1.cell? ⟨w.heap.size, 0 + 2, none⟩ = some (.int .i64 r.kind) := b1.cell rfl
 have c3 : Cells w1 w.heap.size (0 + 3) d5 := Cy b1.cells rfl
 ((refine AB ?_; refine AC rfl ?_))
 repeat' first | refine nx rfl ?_ | fail
 repeat' first | refine AE ?_ | refine Cd ?_ | refine Co ?_
 by_cases hk : r.kind = 1 ∨ r.kind = 2
 ·have hkd : (decide (r.kind = 1) || decide (r.kind = 2)) = true := by simpa using hk
  have hnames : ∀ (fr : Fr) (ds : DS) (Q : CG), True := fun _ _ _ => trivial
  clear hnames
  rcases hk with hk | hk
  all_goals
   (refine AA (AD rfl ?_) <;> refine AG rfl (Blk.cell (by assumption) (by rfl)) ?_ <;> (refine AH rfl rfl (fun hc => ?_) (fun hc => ?_) <;> try omega) <;> refine AC rfl ?_ <;> (first | refine AK rfl ?_ | (refine AF rfl ?_; refine AD rfl ?_)) <;> (first | refine AK rfl ?_ | (refine AF rfl ?_; refine AG rfl (Blk.cell (by assumption) (by rfl)) ?_)) <;> (first | refine AK rfl ?_ | (refine AF rfl ?_; (refine AH rfl rfl (fun hc => ?_) (fun hc => ?_) <;> try omega))) <;> ((first | refine AN rfl ?_ | refine AQ rfl ?_); refine AC rfl ?_) <;> refine AC rfl (AF rfl (AD rfl ?_)) <;> (refine AF rfl ?_; refine AG rfl (Blk.cell (by assumption) (by rfl)) ?_))
   refine AF rfl ?_
   refine AR (refName_ok r.part w1) rfl ?_
   rintro _ w2 ⟨rfl, k2⟩
   have e1 := k2.cell c1 (by simp)
   have e3 := c3.keep k2 (by simp)
   clear c0 c1 c2
   generalize hp : BW r.part = bp
   cases bp with
   | false =>
    refine AN rfl (AC rfl (AC rfl (AK rfl (AK rfl (AK rfl (AQ rfl (AC rfl (AC rfl (AK rfl (AK rfl (AK rfl (AQ rfl (AC rfl (AB (AC rfl ?_)))))))))))))))
    repeat' first | refine nx rfl ?_ | fail
    exact AL rfl ⟨congrArg Value.bool (by simp [okRq, okR, hp]), k1.trans k2⟩
   | true =>
    (refine AN rfl (AC rfl (AC rfl (AF rfl (AD rfl (AF rfl ?_))))) <;> refine AG rfl (by assumption) ?_)
    refine AF rfl ?_
    refine AR (refName_ok r.name w2) rfl ?_
    rintro _ w3 ⟨rfl, k3⟩
    have e4 := e3.keep k3 (by simp)
    generalize hn : BW r.name = bn
    cases bn with
    | false =>
     refine AN rfl (AC rfl (AC rfl (AK rfl (AK rfl (AK rfl (AQ rfl (AC rfl (AB (AC rfl ?_)))))))))
     repeat' first | refine nx rfl ?_ | fail
     exact AL rfl ⟨congrArg Value.bool (by simp [okRq, okR, hn]), (k1.trans k2).trans k3⟩
    | true =>
     refine AN rfl (AC rfl (AC rfl (AF rfl (AD rfl ?_))))
     (refine AF rfl ?_; refine AU (L := d5) rfl hd5 e4 ?_)
     refine AF rfl ?_
     refine AR (printable_ok _ r.formula (Nat.le_refl _) hz w3 _ (hfa.ext ((k1.trans k2).trans k3))) rfl ?_
     rintro _ w4 ⟨rfl, k4⟩
     refine AN rfl (AC rfl (AB (AC rfl ?_)))
     repeat' first | refine nx rfl ?_ | fail
     exact AL rfl ⟨congrArg Value.bool (by simp only [okRq, okR, hkd, hp, hn, Bool.true_and]), ((k1.trans k2).trans k3).trans k4⟩
 ·have hk1 : ¬ r.kind = 1 := fun e => hk (.inl e)
  have hk2 : ¬ r.kind = 2 := fun e => hk (.inr e)
  (refine AA (AD rfl ?_) <;> refine AG rfl (Blk.cell (by assumption) (by rfl)) ?_ <;> (refine AH rfl rfl (fun hc => ?_) (fun hc => ?_) <;> try omega) <;> refine AC rfl (AF rfl (AD rfl ?_)) <;> (refine AF rfl ?_; refine AG rfl (Blk.cell (by assumption) (by rfl)) ?_) <;> (refine AF rfl ?_; (refine AH rfl rfl (fun hc => ?_) (fun hc => ?_) <;> try omega)) <;> refine AQ rfl (AC rfl (AC rfl (AK rfl (AK rfl ?_)))))
  refine AK rfl (AQ rfl (AC rfl (AC rfl (AK rfl (AK rfl (AK rfl (AQ rfl (AC rfl (AC rfl (AK rfl (AK rfl (AK rfl (AQ rfl (AC rfl (AB (AC rfl ?_))))))))))))))))
  repeat' first | refine nx rfl ?_ | fail
  exact AL rfl ⟨congrArg Value.bool (by simp [okRq, okR, hk1, hk2]), k1⟩
set_option maxHeartbeats 1600000 in
theorem rreq_ok (w : World) (d : List Value) (r : Rqm) (hr : reqR.fits Aw w d r) (hok : okR r = true) (hz : szF r.formula ≤ 1000000) : Fn Tryz.prog 49 [.agg d.toArray] w fun u w' => u = AM (reqT r) ∧ Ext w w' := by
 obtain ⟨d5, rfl, hd5, hfa⟩ := req_parts hr
 have hok' := hok
 simp only [okR, Bool.and_eq_true] at hok'
 have hnl := (BB hok'.1.2).2.1
 have hfl := Ce hok'.2 0
 refine Aa Tryz.func49 rfl Tryz.ntmps49 (Nat.le_of_ble_eq_true rfl) (by kernel_rfl) ?_
 repeat' first | refine nx rfl ?_ | fail
 (refine AA ?_; refine BL (L := [AM r.part, AM r.name, .int .i64 r.kind] ++ d5) rfl (fun w1 n1 => ?_))
 have b1 := n1.blk
 have k1 := n1.keep
 have c1 : w1.cell? ⟨w.heap.size, 0 + 1, none⟩ = some (AM r.name) := b1.cell rfl
 have c2 : w1.cell? ⟨w.heap.size, 0 + 2, none⟩ = some (.int .i64 r.kind) := b1.cell rfl
 have c3 : Cells w1 w.heap.size (0 + 3) d5 := Cy b1.cells rfl
 ((refine AB ?_; refine AT rfl ?_))
 repeat' first | refine nx rfl ?_ | fail
 refine AA (AB (AT rfl ?_))
 repeat' first | refine nx rfl ?_ | fail
 generalize hkw : (if r.kind = 1 then [97, 115, 115, 117, 109, 101, 32] else [103, 117, 97, 114, 97, 110, 116, 101, 101, 32] : List UInt8) = kw
 have hkl : kw.length ≤ 10 := by rw [← hkw]; split <;> simp
 have ert : reqT r = kw ++ r.name ++ [58, 32] ++ prF 0 r.formula := by simp [reqT, hkw]
 by_cases h1 : r.kind = 1
 ·rw [if_pos h1] at hkw
  (refine AA (AD rfl ?_) <;> refine AG rfl (Blk.cell (by assumption) (by rfl)) ?_ <;> (refine AH rfl rfl (fun hc => ?_) (fun hc => ?_) <;> try omega))
  repeat' first | refine nx rfl ?_ | fail
  refine AA (AB (AT rfl ?_))
  repeat' first | refine nx rfl ?_ | fail
  rw [hkw]
  refine BA (.read 0 (.read 1 (.read 2 (.read 3 (.read 4 (.read 5 (.read 6 (.alt 7 (.read 8 (.read 9 .done)) .stop)))))))) A6 (by kernel_rfl) (fun wd kd ed => ⟨Ext wd, ?_, ?_⟩)
  ·exact Ext.refl _
  have d1 : ∀ W, Ext wd W → W.cell? ⟨w.heap.size, 0 + 1, none⟩ = some (AM r.name) := fun W e => (kd.trans e).cell c1 (by simp)
  have d3 : ∀ W, Ext wd W → Cells W w.heap.size (0 + 3) d5 := fun W e => c3.keep (kd.trans e) (by simp)
  ((apply D_R rfl rfl; (intro W hW; refine AT rfl ?_; exact AE ⟨rfl, rfl, rfl⟩)) <;> (apply D_R rfl rfl; (intro W hW; refine AD rfl ?_; exact AE ⟨rfl, rfl, rfl⟩)) <;> (apply D_R rfl rfl; (intro W hW; refine AG rfl (d1 W hW) ?_; exact AE ⟨rfl, rfl, rfl⟩)))
  (apply D_R rfl rfl; (intro W hW; (refine Ar rfl rfl (by (try simp); omega) ?_); exact AE ⟨rfl, rfl, rfl⟩))
  (apply D_R rfl rfl; (intro W hW; (refine Ar rfl rfl (by (try simp); omega) ?_); exact AE ⟨rfl, rfl, rfl⟩))
  ((apply D_R rfl rfl; (intro W hW; refine AD rfl ?_; exact AE ⟨rfl, rfl, rfl⟩)))
  (apply D_R rfl rfl; (intro W hW; (refine AU rfl hd5 (d3 W hW) ?_); exact AE ⟨rfl, rfl, rfl⟩))
  refine D_E rfl ?_
  refine AR (rtext_ok _ r.formula (Nat.le_refl _) hz hok'.2 wd _ (hfa.ext (k1.trans kd))) rfl ?_
  rintro _ w3 ⟨rfl, k3⟩
  refine AE ⟨Ext w3, fun _ e => k3.trans e, Ext.refl _, ?_⟩
  (apply D_R rfl rfl; (intro W hW; (refine Ar rfl rfl (by (try simp); omega) ?_); exact AE ⟨rfl, rfl, rfl⟩))
  ((apply D_R rfl rfl; (intro W hW; (refine AB ?_; refine AT rfl ?_); exact AE ⟨rfl, rfl, rfl⟩)) <;> refine A0 ?_)
  repeat' first | refine nx rfl ?_ | fail
  exact AL rfl ⟨by rw [ert]; rfl, (k1.trans kd).trans k3⟩
 ·rw [if_neg h1] at hkw
  (refine AA (AD rfl ?_) <;> refine AG rfl (Blk.cell (by assumption) (by rfl)) ?_ <;> (refine AH rfl rfl (fun hc => ?_) (fun hc => ?_) <;> try omega))
  repeat' first | refine nx rfl ?_ | refine nf rfl ?_
  rw [hkw]
  refine BA (.read 0 (.read 1 (.read 2 (.read 3 (.read 4 (.read 5 (.read 6 (.alt 7 (.read 8 (.read 9 .done)) .stop)))))))) A6 (by kernel_rfl) (fun wd kd ed => ⟨Ext wd, ?_, ?_⟩)
  ·exact Ext.refl _
  have d1 : ∀ W, Ext wd W → W.cell? ⟨w.heap.size, 0 + 1, none⟩ = some (AM r.name) := fun W e => (kd.trans e).cell c1 (by simp)
  have d3 : ∀ W, Ext wd W → Cells W w.heap.size (0 + 3) d5 := fun W e => c3.keep (kd.trans e) (by simp)
  ((apply D_R rfl rfl; (intro W hW; refine AT rfl ?_; exact AE ⟨rfl, rfl, rfl⟩)) <;> (apply D_R rfl rfl; (intro W hW; refine AD rfl ?_; exact AE ⟨rfl, rfl, rfl⟩)) <;> (apply D_R rfl rfl; (intro W hW; refine AG rfl (d1 W hW) ?_; exact AE ⟨rfl, rfl, rfl⟩)))
  (apply D_R rfl rfl; (intro W hW; (refine Ar rfl rfl (by (try simp); omega) ?_); exact AE ⟨rfl, rfl, rfl⟩))
  (apply D_R rfl rfl; (intro W hW; (refine Ar rfl rfl (by (try simp); omega) ?_); exact AE ⟨rfl, rfl, rfl⟩))
  ((apply D_R rfl rfl; (intro W hW; refine AD rfl ?_; exact AE ⟨rfl, rfl, rfl⟩)))
  (apply D_R rfl rfl; (intro W hW; (refine AU rfl hd5 (d3 W hW) ?_); exact AE ⟨rfl, rfl, rfl⟩))
  refine D_E rfl ?_
  refine AR (rtext_ok _ r.formula (Nat.le_refl _) hz hok'.2 wd _ (hfa.ext (k1.trans kd))) rfl ?_
  rintro _ w3 ⟨rfl, k3⟩
  refine AE ⟨Ext w3, fun _ e => k3.trans e, Ext.refl _, ?_⟩
  (apply D_R rfl rfl; (intro W hW; (refine Ar rfl rfl (by (try simp); omega) ?_); exact AE ⟨rfl, rfl, rfl⟩))
  ((apply D_R rfl rfl; (intro W hW; (refine AB ?_; refine AT rfl ?_); exact AE ⟨rfl, rfl, rfl⟩)) <;> refine A0 ?_)
  repeat' first | refine nx rfl ?_ | fail
  exact AL rfl ⟨by rw [ert]; rfl, (k1.trans kd).trans k3⟩
end Go.Proofs.YtfcgdbmoncnibaaGreatDoor
namespace Go.Proofs.YtfcgdbmoncnibaaGreatDoor
open Go.RowKit
set_option linter.unusedVariables false
structure SpA (w : World) (b : Nat) (s : Spc) (sa ra : Option Addr) (sc rc : Nat) (LS LR : List (List Value)) : Prop where
 c0 : w.cell? ⟨b, 0 + 0, none⟩ = some (.slice sa s.sigs.length sc)
 c1 : w.cell? ⟨b, 0 + 1, none⟩ = some (.slice ra s.reqs.length rc)
 ss : Sl Aw w (.slice sa s.sigs.length sc) s.sigs.length LS.flatten
 sr : RsAt sgnR Aw w LS s.sigs
 rs : Sl Aw w (.slice ra s.reqs.length rc) s.reqs.length LR.flatten
 rr : RsAt reqR Aw w LR s.reqs
theorem SpA.ext {w w' : World} {b : Nat} {s : Spc} {sa ra : Option Addr} {sc rc : Nat} {LS LR : List (List Value)} (h : SpA w b s sa ra sc rc LS LR) (k : Ext w w') : SpA w' b s sa ra sc rc LS LR :=
 ⟨k.cell h.c0 (by simp), k.cell h.c1 (by simp), h.ss.ext k, h.sr.ext k, h.rs.ext k, h.rr.ext k⟩
theorem spc_cells {w : World} {c : List Value} {s : Spc} (h : spcR.fits Aw w c s) : ∃ sa sc ra rc LS LR, c = [.slice sa s.sigs.length sc, .slice ra s.reqs.length rc] ∧ ∀ w1, New w w1 28 c → SpA w1 w.heap.size s sa ra sc rc LS LR := by
 obtain ⟨sv, rv, rfl, ⟨sa, sc, LS, rfl, h1, h2⟩, ⟨ra, rc, LR, rfl, h3, h4⟩⟩ := h
 exact ⟨sa, sc, ra, rc, LS, LR, rfl, fun w1 n => ⟨n.blk.cell rfl, n.blk.cell rfl, h1.ext n.keep, h2.ext n.keep, h3.ext n.keep, h4.ext n.keep⟩⟩
theorem SpA.sig {w : World} {b k : Nat} {s : Spc} {sa ra : Option Addr} {sc rc : Nat} {LS LR : List (List Value)} {x : Sgn} (h : SpA w b s sa ra sc rc LS LR) (hx : s.sigs[k]? = some x) : ∃ bs os, sa = some ⟨bs, os, none⟩ ∧ Cells w bs (os + k * 3) (B7 x) := by
 have hlt := (List.getElem?_eq_some_iff.1 hx).1
 obtain ⟨d, hd⟩ : ∃ d, LS[k]? = some d := ⟨_, List.getElem?_eq_getElem (by rw [h.sr.1]; exact hlt)⟩
 obtain ⟨bs, os, e, _, hc⟩ := h.ss.row h.sr hd hlt
 have hdx : d = B7 x := h.sr.2 k d x hd hx
 subst hdx
 exact ⟨bs, os, e, hc⟩
theorem SpA.req {w : World} {b k : Nat} {s : Spc} {sa ra : Option Addr} {sc rc : Nat} {LS LR : List (List Value)} {r : Rqm} (h : SpA w b s sa ra sc rc LS LR) (hx : s.reqs[k]? = some r) : ∃ bs os d, sa = sa ∧ ra = some ⟨bs, os, none⟩ ∧ d.length = 8 ∧ Cells w bs (os + k * 8) d ∧ reqR.fits Aw w d r := by
 have hlt := (List.getElem?_eq_some_iff.1 hx).1
 obtain ⟨d, hd⟩ : ∃ d, LR[k]? = some d := ⟨_, List.getElem?_eq_getElem (by rw [h.rr.1]; exact hlt)⟩
 obtain ⟨bs, os, e, _, hc⟩ := h.rs.row h.rr hd hlt
 have hf := h.rr.2 k d r hd hx
 exact ⟨bs, os, d, rfl, e, reqR.len hf, hc, hf⟩
theorem szR_mem {l : List Rqm} {k : Nat} {r : Rqm} (h : l[k]? = some r) : szF r.formula + 4 ≤ szR l := by
 have := szR_take h
 have := szR_le l (k + 1)
 omega
theorem all_false {α : Type} {p : α → Bool} {l : List α} {k : Nat} {x : α} (hx : l[k]? = some x) (h : p x = false) : l.all p = false := by
 rw [← Bool.not_eq_true, List.all_eq_true]
 intro h2
 have := h2 x (List.mem_of_getElem? hx)
 rw [h] at this; cases this
theorem all_take_succ {α : Type} {p : α → Bool} {l : List α} {k : Nat} {x : α} (hx : l[k]? = some x) (h : (l.take k).all p = true) (hp : p x = true) : (l.take (k + 1)).all p = true := by
 rw [List.take_add_one, hx, List.all_append, h]; simp [hp]
set_option maxHeartbeats 1600000 in
theorem rprintSpec_ok (w : World) (c : List Value) (s : Spc) (hs : spcR.fits Aw w c s) (hz : szS s ≤ 1000000) : Fn Tryz.prog 22 [.agg c.toArray] w fun u w' => u = .bool (Cr s) ∧ Ext w w' := by
 obtain ⟨sa, sc, ra, rc, LS, LR, rfl, hN⟩ := spc_cells hs
 have hsl : s.sigs.length ≤ 1000000 := by unfold szS at hz; omega
 have hrz : szR s.reqs ≤ 1000000 := by unfold szS at hz; omega
 have hrl := szR_len s.reqs
 refine Aa Tryz.func22 rfl Tryz.ntmps22 (Nat.le_of_ble_eq_true rfl) (by kernel_rfl) ?_
 repeat' first | refine nx rfl ?_ | fail
 (refine AA ?_; refine BL (L := [.slice sa s.sigs.length sc, .slice ra s.reqs.length rc]) rfl (fun w1 n1 => ?_))
 have hV := hN w1 n1
 have k1 := n1.keep
 ((refine AB ?_; refine AC rfl ?_))
 repeat' first | refine nx rfl ?_ | fail
 refine AA (AB (AI rfl (AE ?_)))
 repeat' first | refine AE ?_ | refine Cd ?_ | refine Co ?_
 refine Bv (α := Unit) (fun _ => [(1, pt w.heap.size)]) (fun _ W => s.sigs.all okS = true ∧ Ext w1 W) ?_ ?_
 ·repeat' first | refine nx rfl ?_ | fail
  refine BE (α := Nat) (fun k => [(1, pt w.heap.size), (3, .int .i64 (k : Int))]) (fun k W => k ≤ s.sigs.length ∧ (s.sigs.take k).all okS = true ∧ Ext w1 W) (fun k => s.sigs.length - k) 0 ⟨rfl, rfl, trivial⟩ ⟨by simp, by simp, Ext.refl _⟩ ?_
  rintro k w2 f2 ⟨hk, hok, k2⟩
  repeat' first | refine nx rfl ?_ | fail
  have hV2 := hV.ext k2
  have c0 := hV2.c0
  by_cases hlt : k < s.sigs.length
  ·(refine AA (AI rfl (AD rfl ?_)) <;> refine AG rfl (by assumption) ?_ <;> refine Ao rfl ?_ <;> (refine As rfl rfl (fun hc => ?_) (fun hc => ?_) <;> try omega))
   repeat' first | refine nx rfl ?_ | fail
   obtain ⟨x, hx⟩ : ∃ x, s.sigs[k]? = some x := ⟨_, List.getElem?_eq_getElem hlt⟩
   obtain ⟨bs, os, rfl, hcx⟩ := hV2.sig hx
   have x0 : w2.cell? ⟨bs, os + k * 3 + 0, none⟩ = some (AM x.name) := hcx 0 _ rfl
   have x2 : w2.cell? ⟨bs, os + k * 3 + 2, none⟩ = some (.int .i64 x.size) := hcx 2 _ rfl
   (refine AA (AD rfl ?_) <;> refine AG rfl (by assumption) ?_ <;> refine AI rfl ?_ <;> refine BP rfl rfl rfl (by omega) ?_ <;> refine AD rfl ?_ <;> refine AG rfl (by assumption) ?_)
   refine AR (refName_ok x.name w2) rfl ?_
   rintro _ w3 ⟨rfl, k3⟩
   have y0 := k3.cell c0 (by simp)
   have y2 := k3.cell x2 (by simp)
   clear c0 x0 x2
   generalize hn : BW x.name = bn
   refine A4 rfl ?_
   cases bn with
   | false =>
    rw [Bool.not_false]
    refine AC rfl (AK rfl (AK rfl (AK rfl (AK rfl (AK rfl (AK rfl (AK rfl (AK rfl (AN rfl (AC rfl ?_))))))))))
    repeat' first | refine nx rfl ?_ | fail
    refine AA (AB (AC rfl ?_))
    repeat' first | refine nx rfl ?_ | fail
    exact AL rfl ⟨by simp only [Cr]; rw [all_false hx (p := okS) (by simp [okS, hn])]; rfl, (k1.trans k2).trans k3⟩
   | true =>
    rw [Bool.not_true]
    (refine AC rfl (AF rfl (AD rfl (AF rfl ?_))) <;> refine AG rfl (by assumption) ?_ <;> refine AF rfl (AI rfl (AF rfl ?_)) <;> refine BP rfl rfl rfl (by omega) ?_ <;> refine AF rfl (AD rfl (AF rfl ?_)) <;> refine AG rfl (by assumption) ?_)
    refine AF rfl ?_
    refine AR (rnumber_ok w3 x.size) rfl ?_
    rintro _ w4 ⟨rfl, rfl⟩
    generalize hb : numB x.size = bb
    (refine AF rfl ?_; refine A4 rfl ?_)
    cases bb with
    | false =>
     rw [Bool.not_false]
     ((refine AQ rfl ?_; refine AC rfl ?_))
     repeat' first | refine nx rfl ?_ | fail
     refine AA (AB (AC rfl ?_))
     repeat' first | refine nx rfl ?_ | fail
     exact AL rfl ⟨by simp only [Cr]; rw [all_false hx (p := okS) (by simp [okS, hb])]; rfl, (k1.trans k2).trans k3⟩
    | true =>
     rw [Bool.not_true]
     ((refine AQ rfl ?_; refine AC rfl ?_))
     repeat' first | refine nx rfl ?_ | refine nf rfl ?_
     (refine AA (AI rfl ?_) <;> refine BD rfl rfl (by first | exact Ah (by omega) (by omega) | exact Aq (by omega) (by omega) | exact Ai (by omega) (by omega)) ?_ <;> refine AB (AI rfl ?_))
     repeat' first | refine nx rfl ?_ | fail
     refine ⟨k + 1, ⟨rfl, ⟨rfl, ?_, trivial⟩, ⟨hlt, all_take_succ hx hok (by simp [okS, hn, hb]), k2.trans k3⟩⟩, by omega⟩
     show Value.int .i64 ((k : Int) + 1) = _
     rw [Int.natCast_add]; rfl
  ·(refine AA (AI rfl (AD rfl ?_)) <;> refine AG rfl (by assumption) ?_ <;> refine Ao rfl ?_ <;> (refine As rfl rfl (fun hc => ?_) (fun hc => ?_) <;> try omega))
   repeat' first | refine nx rfl ?_ | refine nf rfl ?_
   rw [List.take_of_length_le (by omega)] at hok
   exact Am () ⟨rfl, trivial⟩ ⟨hok, k2⟩
 rintro _ w2 f2 ⟨hsok, k2⟩
 repeat' first | refine nx rfl ?_ | fail
 refine AA (AB (AI rfl ?_))
 repeat' first | refine nx rfl ?_ | fail
 refine BE (α := Nat) (fun k => [(1, pt w.heap.size), (4, .int .i64 (k : Int))]) (fun k W => k ≤ s.reqs.length ∧ (s.reqs.take k).all okRq = true ∧ Ext w1 W) (fun k => s.reqs.length - k) 0 ⟨rfl, rfl, trivial⟩ ⟨by simp, by simp, k2⟩ ?_
 clear k2
 rintro k w2 f2 ⟨hk, hok, k2⟩
 repeat' first | refine nx rfl ?_ | fail
 have hV2 := hV.ext k2
 have c1 := hV2.c1
 by_cases hlt : k < s.reqs.length
 ·(refine AA (AI rfl (AD rfl ?_)) <;> refine AG rfl (by assumption) ?_ <;> refine Ao rfl ?_ <;> (refine As rfl rfl (fun hc => ?_) (fun hc => ?_) <;> try omega))
  repeat' first | refine nx rfl ?_ | fail
  obtain ⟨r, hr⟩ : ∃ r, s.reqs[k]? = some r := ⟨_, List.getElem?_eq_getElem hlt⟩
  obtain ⟨bs, os, d, _, rfl, hd8, hcd, hfr⟩ := hV2.req hr
  have hzr := szR_mem hr
  (refine AA (AD rfl ?_) <;> refine AG rfl (by assumption) ?_ <;> refine AI rfl ?_)
  refine BP (k := k) rfl rfl rfl (by omega) ?_
  refine AU (L := d) rfl hd8 hcd ?_
  refine AR (rprintReq_ok w2 d r hfr (by omega)) rfl ?_
  rintro _ w3 ⟨rfl, k3⟩
  generalize hb : okRq r = bb
  refine A4 rfl ?_
  cases bb with
  | false =>
   rw [Bool.not_false]
   repeat' first | refine nx rfl ?_ | fail
   refine AA (AB (AC rfl ?_))
   repeat' first | refine nx rfl ?_ | fail
   exact AL rfl ⟨by simp only [Cr]; rw [all_false hr (p := okRq) hb, Bool.and_false]; rfl, (k1.trans k2).trans k3⟩
  | true =>
   rw [Bool.not_true]
   repeat' first | refine nx rfl ?_ | refine nf rfl ?_
   (refine AA (AI rfl ?_) <;> refine BD rfl rfl (by first | exact Ah (by omega) (by omega) | exact Aq (by omega) (by omega) | exact Ai (by omega) (by omega)) ?_ <;> refine AB (AI rfl ?_))
   repeat' first | refine nx rfl ?_ | fail
   refine ⟨k + 1, ⟨rfl, ⟨rfl, ?_, trivial⟩, ⟨hlt, all_take_succ hr hok hb, k2.trans k3⟩⟩, by omega⟩
   show Value.int .i64 ((k : Int) + 1) = _
   rw [Int.natCast_add]; rfl
 ·(refine AA (AI rfl (AD rfl ?_)) <;> refine AG rfl (by assumption) ?_ <;> refine Ao rfl ?_ <;> (refine As rfl rfl (fun hc => ?_) (fun hc => ?_) <;> try omega))
  repeat' first | refine nx rfl ?_ | refine nf rfl ?_
  refine AA (AB (AC rfl ?_))
  repeat' first | refine nx rfl ?_ | fail
  rw [List.take_of_length_le (by omega)] at hok
  exact AL rfl ⟨by simp only [Cr, hsok, hok]; rfl, k1.trans k2⟩
end Go.Proofs.YtfcgdbmoncnibaaGreatDoor
