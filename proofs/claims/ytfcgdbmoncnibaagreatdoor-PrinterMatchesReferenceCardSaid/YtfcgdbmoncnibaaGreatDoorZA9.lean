/- The printer: the table of styles, filled in any order. The printer: what panics, numbers, names. The printer: what a node must be, its sign. The printer: the sign of a node. Conditions: none. -/
import Derived.Test.YtfcgdbmoncnibaaGreatDoorZA8
import Derived.Test.YtfcgdbmoncnibaaGreatDoorShl

namespace Go.Proofs.YtfcgdbmoncnibaaGreatDoor
open Go.RowKit
set_option linter.unusedVariables false
variable {mk : Prop} [MK mk]
section
attribute [local semireducible] WC AX Bk BG Bc Cb Cv Bd
variable {P : Program} {all : Array Oper} {Z : Fr → DS → List PanicEntry → World → Prop} {K : Fr → DS → World → Prop} {rest : List Oper} {f : Fr} {ds : DS} {w : World} {d : Nat} {ty : TypeId} {pos : String} {af : Array Edge}
theorem CH {x : Operand} {v : Value} (hx : ev f x = v) (h : AX P all Z K rest (upd f d v) ds w) : AX P all Z K (⟨some d, .move x, ty, pos, af, none⟩ :: rest) f ds w := by
 subst hx; exact At h
theorem B9 {x : Operand} {l : List Operand} {v : Value} {vs : List Value} (h : ev f x = v) (h' : evL f l = vs) : evL f (x :: l) = v :: vs := by
 subst h; subst h'; rfl
end
theorem Ae {o : Oper} {L : Nat → Bool} {j : Nat} (h : (o.after.toList.any fun e => Nat.beq e.on j && Region.binds .any e) = true) (hall : ∀ e ∈ o.after.toList, Region.binds .any e = true → L e.on = true) : L j = true := by
 obtain ⟨e, he, h2⟩ := List.any_eq_true.1 h
 simp only [Bool.and_eq_true] at h2
 have h3 : e.on = j := Nat.eq_of_beq_eq_true h2.1
 rw [← h3]; exact hall e he h2.2
theorem ins_sty : ∀ p ∈ insT, (BS p.2.1).map BR = some p.2.2 := by
 intro p hp
 simp only [insT, List.mem_cons, List.not_mem_nil, or_false] at hp
 rcases hp with rfl | rfl | rfl | rfl | rfl | rfl | rfl | rfl | rfl | rfl | rfl | rfl | rfl | rfl | rfl | rfl | rfl | rfl | rfl <;> rfl
theorem sty_ins {op : Int} {s : Sty} (h : BS op = some s) : ∃ p ∈ insT, p.2.1 = op := by
 rcases op_cases h with rfl | rfl | rfl | rfl | rfl | rfl | rfl | rfl | rfl | rfl | rfl | rfl | rfl | rfl | rfl | rfl | rfl | rfl | rfl
 ·exact ⟨(2, 1, An 1), by simp [insT], rfl⟩
 ·exact ⟨(4, 2, An 2), by simp [insT], rfl⟩
 ·exact ⟨(6, 3, An 3), by simp [insT], rfl⟩
 ·exact ⟨(10, 4, An 4), by simp [insT], rfl⟩
 ·exact ⟨(12, 5, An 5), by simp [insT], rfl⟩
 ·exact ⟨(14, 6, An 6), by simp [insT], rfl⟩
 ·exact ⟨(16, 7, An 7), by simp [insT], rfl⟩
 ·exact ⟨(20, 8, An 8), by simp [insT], rfl⟩
 ·exact ⟨(24, 9, An 9), by simp [insT], rfl⟩
 ·exact ⟨(28, 10, An 10), by simp [insT], rfl⟩
 ·exact ⟨(32, 11, An 11), by simp [insT], rfl⟩
 ·exact ⟨(36, 12, An 12), by simp [insT], rfl⟩
 ·exact ⟨(40, 13, An 13), by simp [insT], rfl⟩
 ·exact ⟨(44, 14, An 14), by simp [insT], rfl⟩
 ·exact ⟨(48, 15, An 15), by simp [insT], rfl⟩
 ·exact ⟨(52, 16, An 16), by simp [insT], rfl⟩
 ·exact ⟨(56, 17, An 17), by simp [insT], rfl⟩
 ·exact ⟨(60, 18, An 18), by simp [insT], rfl⟩
 ·exact ⟨(64, 19, An 19), by simp [insT], rfl⟩
def StyM (w : World) (r : Nat) : Prop := ∃ M, VMap w r M ∧ ∀ op, M.lookup op = (BS op).map BR
theorem StyM.keep {X : List Nat} {w w' : World} {r : Nat} (h : StyM w r) (k : Keep X w w') (hr : r ∉ X) : StyM w' r := by
 obtain ⟨M, h1, h2⟩ := h
 exact ⟨M, h1.keep k hr, h2⟩
set_option maxHeartbeats 6400000 in
set_option maxRecDepth 20000 in
theorem styles_ok (w : World) : Fn Tryz.prog 74 [] w fun v w' => ∃ r, v = .map (some r) ∧ Ext w w' ∧ w.heap.size ≤ r ∧ StyM w' r := by
 refine Aa Tryz.func74 rfl Tryz.ntmps74 (Nat.le_of_ble_eq_true rfl) (by kernel_rfl) ?_
 repeat' first | refine nx rfl ?_ | fail
 refine AA (AB (M_map rfl ?_))
 repeat' first | refine nx rfl ?_ | fail
 (refine AA ?_ <;> refine Ac (by rfl) (by rfl) ?_)
 refine A7 (cs := By pfx) rfl rfl (by rfl) (styC_one _) (fun w1 n1 => AE ?_)
 repeat' first | refine nx rfl ?_ | fail
 (refine AA ?_ <;> refine Ac (by rfl) (by rfl) ?_)
 refine A7 (cs := By ifx) rfl rfl (by rfl) (styC_one _) (fun w2 n2 => AE ?_)
 repeat' first | refine nx rfl ?_ | fail
 (refine AA (AB ?_) <;> refine CT rfl ?_)
 repeat' first | refine nx rfl ?_ | fail
 (refine AA (AB ?_) <;> refine CT rfl ?_)
 repeat' first | refine nx rfl ?_ | fail
 (refine AA (AB ?_) <;> refine CT rfl ?_)
 repeat' first | refine nx rfl ?_ | fail
 have k2 : Ext w w2 := n1.keep.trans n2.keep
 have B1 : Blk w2 w.heap.size 129 (By pfx) := n1.blk.keep n2.keep (by simp)
 have B2 : Blk w2 w1.heap.size 129 (By ifx) := n2.blk
 refine C_inv (StyInv w.heap.size w1.heap.size w2 []) A6 (by kernel_rfl) ?_ ?_ ?_
 ·intro w3 k3 e3
  refine ⟨rfl, k3, rfl, rfl, rfl, rfl, rfl, fun p hp hL => ?_, fun p hp hL => ?_, fun hL => (by cases hL), fun hL => (by cases hL), fun hL => (by cases hL), fun hL => (by cases hL)⟩
  ·have := (v_ops p hp).1
   have hb : Nat.blt p.1 67 = true := by rw [Nat.blt_eq]; exact this
   have hL : (!Nat.blt p.1 67) = true := hL
   rw [hb] at hL; cases hL
  ·have := (i_ops p hp).1
   have hb : Nat.blt p.1 67 = true := by rw [Nat.blt_eq]; exact this
   have hL : (!Nat.blt p.1 67) = true := hL
   rw [hb] at hL; cases hL
 ·intro L f ds w i o hI ho hL haft
  have hB1 : Blk w2 _ 129 (By pfx) := B1
  have hB2 : Blk w2 _ 129 (By ifx) := B2
  have hlt : i < 67 := (List.getElem?_eq_some_iff.1 ho).1
  match i, hlt, ho, hL, haft with
  | 0, _, ho, hL, haft =>
   obtain rfl := Option.some.inj ho
   refine W_makeMapV (fun w1 k1 z1 m1 => AE ?_)
   exact styInv_make hI k1 m1 hL
  | 1, _, ho, hL, haft =>
   obtain rfl := Option.some.inj ho
   refine Ac (vs := _) (out := By (styK 1)) rfl (by kernel_rfl) (AE ?_)
   exact Ag (p := (1, 9, An 1)) hI (by simp [valT]) (Ext.refl _)
  | 2, _, ho, hL, haft =>
   obtain rfl := Option.some.inj ho
   have h0 : L 0 = true := Ae (j := 0) (by kernel_rfl) haft
   have h1 : L 1 = true := Ae (j := 1) (by kernel_rfl) haft
   obtain ⟨r, M, hr, hlr, hM, hm⟩ := hI.map h0
   refine BO (x := 1) (y := An 1) hr rfl (hI.vals (1, 9, An 1) (by simp [valT]) h1) hM (hI.none (q := (2, 1, An 1)) (by simp [insT]) hL hm) (fun w1 k1 z1 m1 => AE ?_)
   exact BF (q := (2, 1, An 1)) hI (by simp [insT]) hr hlr hm k1 m1 h0
  | 3, _, ho, hL, haft =>
   obtain rfl := Option.some.inj ho
   refine Ac (vs := _) (out := By (styK 2)) rfl (by kernel_rfl) (AE ?_)
   exact Ag (p := (3, 10, An 2)) hI (by simp [valT]) (Ext.refl _)
  | 4, _, ho, hL, haft =>
   obtain rfl := Option.some.inj ho
   have h0 : L 0 = true := Ae (j := 0) (by kernel_rfl) haft
   have h1 : L 3 = true := Ae (j := 3) (by kernel_rfl) haft
   obtain ⟨r, M, hr, hlr, hM, hm⟩ := hI.map h0
   refine BO (x := 2) (y := An 2) hr rfl (hI.vals (3, 10, An 2) (by simp [valT]) h1) hM (hI.none (q := (4, 2, An 2)) (by simp [insT]) hL hm) (fun w1 k1 z1 m1 => AE ?_)
   exact BF (q := (4, 2, An 2)) hI (by simp [insT]) hr hlr hm k1 m1 h0
  | 5, _, ho, hL, haft =>
   obtain rfl := Option.some.inj ho
   refine Ac (vs := _) (out := By (styK 3)) rfl (by kernel_rfl) (AE ?_)
   exact Ag (p := (5, 11, An 3)) hI (by simp [valT]) (Ext.refl _)
  | 6, _, ho, hL, haft =>
   obtain rfl := Option.some.inj ho
   have h0 : L 0 = true := Ae (j := 0) (by kernel_rfl) haft
   have h1 : L 5 = true := Ae (j := 5) (by kernel_rfl) haft
   obtain ⟨r, M, hr, hlr, hM, hm⟩ := hI.map h0
   refine BO (x := 3) (y := An 3) hr rfl (hI.vals (5, 11, An 3) (by simp [valT]) h1) hM (hI.none (q := (6, 3, An 3)) (by simp [insT]) hL hm) (fun w1 k1 z1 m1 => AE ?_)
   exact BF (q := (6, 3, An 3)) hI (by simp [insT]) hr hlr hm k1 m1 h0
  | 7, _, ho, hL, haft =>
   obtain rfl := Option.some.inj ho
   refine CH (v := fn1) hI.p3 (AE ?_)
   exact Ag (p := (7, 12, fn1)) hI (by simp [valT]) (Ext.refl _)
  | 8, _, ho, hL, haft =>
   obtain rfl := Option.some.inj ho
   refine AW hI.p1 (hB1.keep hI.ext (by simp)) rfl (AE ?_)
   exact Ag (p := (8, 13, BR pfx)) hI (by simp [valT]) (Ext.refl _)
  | 9, _, ho, hL, haft =>
   obtain rfl := Option.some.inj ho
   have h1 : L 7 = true := Ae (j := 7) (by kernel_rfl) haft
   have h2 : L 8 = true := Ae (j := 8) (by kernel_rfl) haft
   refine Bo (v1 := []) (v2 := []) (vs := [BR pfx, AM [33]]) (hI.vals (7, 12, fn1) (by simp [valT]) h1) (C1 w pfx _) (B9 (hI.vals (8, 13, BR pfx) (by simp [valT]) h2) rfl) ?_
   rintro _ w1 ⟨rfl, k1⟩
   refine AE ?_
   exact Ag (p := (9, 14, An 4)) hI (by simp [valT]) k1
  | 10, _, ho, hL, haft =>
   obtain rfl := Option.some.inj ho
   have h0 : L 0 = true := Ae (j := 0) (by kernel_rfl) haft
   have h1 : L 9 = true := Ae (j := 9) (by kernel_rfl) haft
   obtain ⟨r, M, hr, hlr, hM, hm⟩ := hI.map h0
   refine BO (x := 4) (y := An 4) hr rfl (hI.vals (9, 14, An 4) (by simp [valT]) h1) hM (hI.none (q := (10, 4, An 4)) (by simp [insT]) hL hm) (fun w1 k1 z1 m1 => AE ?_)
   exact BF (q := (10, 4, An 4)) hI (by simp [insT]) hr hlr hm k1 m1 h0
  | 11, _, ho, hL, haft =>
   obtain rfl := Option.some.inj ho
   refine Ac (vs := _) (out := By (styK 5)) rfl (by kernel_rfl) (AE ?_)
   exact Ag (p := (11, 15, An 5)) hI (by simp [valT]) (Ext.refl _)
  | 12, _, ho, hL, haft =>
   obtain rfl := Option.some.inj ho
   have h0 : L 0 = true := Ae (j := 0) (by kernel_rfl) haft
   have h1 : L 11 = true := Ae (j := 11) (by kernel_rfl) haft
   obtain ⟨r, M, hr, hlr, hM, hm⟩ := hI.map h0
   refine BO (x := 5) (y := An 5) hr rfl (hI.vals (11, 15, An 5) (by simp [valT]) h1) hM (hI.none (q := (12, 5, An 5)) (by simp [insT]) hL hm) (fun w1 k1 z1 m1 => AE ?_)
   exact BF (q := (12, 5, An 5)) hI (by simp [insT]) hr hlr hm k1 m1 h0
  | 13, _, ho, hL, haft =>
   obtain rfl := Option.some.inj ho
   refine Ac (vs := _) (out := By (styK 6)) rfl (by kernel_rfl) (AE ?_)
   exact Ag (p := (13, 16, An 6)) hI (by simp [valT]) (Ext.refl _)
  | 14, _, ho, hL, haft =>
   obtain rfl := Option.some.inj ho
   have h0 : L 0 = true := Ae (j := 0) (by kernel_rfl) haft
   have h1 : L 13 = true := Ae (j := 13) (by kernel_rfl) haft
   obtain ⟨r, M, hr, hlr, hM, hm⟩ := hI.map h0
   refine BO (x := 6) (y := An 6) hr rfl (hI.vals (13, 16, An 6) (by simp [valT]) h1) hM (hI.none (q := (14, 6, An 6)) (by simp [insT]) hL hm) (fun w1 k1 z1 m1 => AE ?_)
   exact BF (q := (14, 6, An 6)) hI (by simp [insT]) hr hlr hm k1 m1 h0
  | 15, _, ho, hL, haft =>
   obtain rfl := Option.some.inj ho
   refine Ac (vs := _) (out := By (styK 7)) rfl (by kernel_rfl) (AE ?_)
   exact Ag (p := (15, 17, An 7)) hI (by simp [valT]) (Ext.refl _)
  | 16, _, ho, hL, haft =>
   obtain rfl := Option.some.inj ho
   have h0 : L 0 = true := Ae (j := 0) (by kernel_rfl) haft
   have h1 : L 15 = true := Ae (j := 15) (by kernel_rfl) haft
   obtain ⟨r, M, hr, hlr, hM, hm⟩ := hI.map h0
   refine BO (x := 7) (y := An 7) hr rfl (hI.vals (15, 17, An 7) (by simp [valT]) h1) hM (hI.none (q := (16, 7, An 7)) (by simp [insT]) hL hm) (fun w1 k1 z1 m1 => AE ?_)
   exact BF (q := (16, 7, An 7)) hI (by simp [insT]) hr hlr hm k1 m1 h0
  | 17, _, ho, hL, haft =>
   obtain rfl := Option.some.inj ho
   refine CH (v := fn1) hI.p3 (AE ?_)
   exact Ag (p := (17, 18, fn1)) hI (by simp [valT]) (Ext.refl _)
  | 18, _, ho, hL, haft =>
   obtain rfl := Option.some.inj ho
   refine AW hI.p1 (hB1.keep hI.ext (by simp)) rfl (AE ?_)
   exact Ag (p := (18, 19, BR pfx)) hI (by simp [valT]) (Ext.refl _)
  | 19, _, ho, hL, haft =>
   obtain rfl := Option.some.inj ho
   have h1 : L 17 = true := Ae (j := 17) (by kernel_rfl) haft
   have h2 : L 18 = true := Ae (j := 18) (by kernel_rfl) haft
   refine Bo (v1 := []) (v2 := []) (vs := [BR pfx, AM [88, 32]]) (hI.vals (17, 18, fn1) (by simp [valT]) h1) (C1 w pfx _) (B9 (hI.vals (18, 19, BR pfx) (by simp [valT]) h2) rfl) ?_
   rintro _ w1 ⟨rfl, k1⟩
   refine AE ?_
   exact Ag (p := (19, 20, An 8)) hI (by simp [valT]) k1
  | 20, _, ho, hL, haft =>
   obtain rfl := Option.some.inj ho
   have h0 : L 0 = true := Ae (j := 0) (by kernel_rfl) haft
   have h1 : L 19 = true := Ae (j := 19) (by kernel_rfl) haft
   obtain ⟨r, M, hr, hlr, hM, hm⟩ := hI.map h0
   refine BO (x := 8) (y := An 8) hr rfl (hI.vals (19, 20, An 8) (by simp [valT]) h1) hM (hI.none (q := (20, 8, An 8)) (by simp [insT]) hL hm) (fun w1 k1 z1 m1 => AE ?_)
   exact BF (q := (20, 8, An 8)) hI (by simp [insT]) hr hlr hm k1 m1 h0
  | 21, _, ho, hL, haft =>
   obtain rfl := Option.some.inj ho
   refine CH (v := fn1) hI.p3 (AE ?_)
   exact Ag (p := (21, 21, fn1)) hI (by simp [valT]) (Ext.refl _)
  | 22, _, ho, hL, haft =>
   obtain rfl := Option.some.inj ho
   refine AW hI.p2 (hB2.keep hI.ext (by simp)) rfl (AE ?_)
   exact Ag (p := (22, 22, BR ifx)) hI (by simp [valT]) (Ext.refl _)
  | 23, _, ho, hL, haft =>
   obtain rfl := Option.some.inj ho
   have h1 : L 21 = true := Ae (j := 21) (by kernel_rfl) haft
   have h2 : L 22 = true := Ae (j := 22) (by kernel_rfl) haft
   refine Bo (v1 := []) (v2 := []) (vs := [BR ifx, AM [32, 85, 32]]) (hI.vals (21, 21, fn1) (by simp [valT]) h1) (C1 w ifx _) (B9 (hI.vals (22, 22, BR ifx) (by simp [valT]) h2) rfl) ?_
   rintro _ w1 ⟨rfl, k1⟩
   refine AE ?_
   exact Ag (p := (23, 23, An 9)) hI (by simp [valT]) k1
  | 24, _, ho, hL, haft =>
   obtain rfl := Option.some.inj ho
   have h0 : L 0 = true := Ae (j := 0) (by kernel_rfl) haft
   have h1 : L 23 = true := Ae (j := 23) (by kernel_rfl) haft
   obtain ⟨r, M, hr, hlr, hM, hm⟩ := hI.map h0
   refine BO (x := 9) (y := An 9) hr rfl (hI.vals (23, 23, An 9) (by simp [valT]) h1) hM (hI.none (q := (24, 9, An 9)) (by simp [insT]) hL hm) (fun w1 k1 z1 m1 => AE ?_)
   exact BF (q := (24, 9, An 9)) hI (by simp [insT]) hr hlr hm k1 m1 h0
  | 25, _, ho, hL, haft =>
   obtain rfl := Option.some.inj ho
   refine CH (v := fn1) hI.p3 (AE ?_)
   exact Ag (p := (25, 24, fn1)) hI (by simp [valT]) (Ext.refl _)
  | 26, _, ho, hL, haft =>
   obtain rfl := Option.some.inj ho
   refine AW hI.p2 (hB2.keep hI.ext (by simp)) rfl (AE ?_)
   exact Ag (p := (26, 25, BR ifx)) hI (by simp [valT]) (Ext.refl _)
  | 27, _, ho, hL, haft =>
   obtain rfl := Option.some.inj ho
   have h1 : L 25 = true := Ae (j := 25) (by kernel_rfl) haft
   have h2 : L 26 = true := Ae (j := 26) (by kernel_rfl) haft
   refine Bo (v1 := []) (v2 := []) (vs := [BR ifx, AM [32, 82, 32]]) (hI.vals (25, 24, fn1) (by simp [valT]) h1) (C1 w ifx _) (B9 (hI.vals (26, 25, BR ifx) (by simp [valT]) h2) rfl) ?_
   rintro _ w1 ⟨rfl, k1⟩
   refine AE ?_
   exact Ag (p := (27, 26, An 10)) hI (by simp [valT]) k1
  | 28, _, ho, hL, haft =>
   obtain rfl := Option.some.inj ho
   have h0 : L 0 = true := Ae (j := 0) (by kernel_rfl) haft
   have h1 : L 27 = true := Ae (j := 27) (by kernel_rfl) haft
   obtain ⟨r, M, hr, hlr, hM, hm⟩ := hI.map h0
   refine BO (x := 10) (y := An 10) hr rfl (hI.vals (27, 26, An 10) (by simp [valT]) h1) hM (hI.none (q := (28, 10, An 10)) (by simp [insT]) hL hm) (fun w1 k1 z1 m1 => AE ?_)
   exact BF (q := (28, 10, An 10)) hI (by simp [insT]) hr hlr hm k1 m1 h0
  | 29, _, ho, hL, haft =>
   obtain rfl := Option.some.inj ho
   refine CH (v := fn1) hI.p3 (AE ?_)
   exact Ag (p := (29, 27, fn1)) hI (by simp [valT]) (Ext.refl _)
  | 30, _, ho, hL, haft =>
   obtain rfl := Option.some.inj ho
   refine AW hI.p1 (hB1.keep hI.ext (by simp)) rfl (AE ?_)
   exact Ag (p := (30, 28, BR pfx)) hI (by simp [valT]) (Ext.refl _)
  | 31, _, ho, hL, haft =>
   obtain rfl := Option.some.inj ho
   have h1 : L 29 = true := Ae (j := 29) (by kernel_rfl) haft
   have h2 : L 30 = true := Ae (j := 30) (by kernel_rfl) haft
   refine Bo (v1 := []) (v2 := []) (vs := [BR pfx, AM [70, 32]]) (hI.vals (29, 27, fn1) (by simp [valT]) h1) (C1 w pfx _) (B9 (hI.vals (30, 28, BR pfx) (by simp [valT]) h2) rfl) ?_
   rintro _ w1 ⟨rfl, k1⟩
   refine AE ?_
   exact Ag (p := (31, 29, An 11)) hI (by simp [valT]) k1
  | 32, _, ho, hL, haft =>
   obtain rfl := Option.some.inj ho
   have h0 : L 0 = true := Ae (j := 0) (by kernel_rfl) haft
   have h1 : L 31 = true := Ae (j := 31) (by kernel_rfl) haft
   obtain ⟨r, M, hr, hlr, hM, hm⟩ := hI.map h0
   refine BO (x := 11) (y := An 11) hr rfl (hI.vals (31, 29, An 11) (by simp [valT]) h1) hM (hI.none (q := (32, 11, An 11)) (by simp [insT]) hL hm) (fun w1 k1 z1 m1 => AE ?_)
   exact BF (q := (32, 11, An 11)) hI (by simp [insT]) hr hlr hm k1 m1 h0
  | 33, _, ho, hL, haft =>
   obtain rfl := Option.some.inj ho
   refine CH (v := fn1) hI.p3 (AE ?_)
   exact Ag (p := (33, 30, fn1)) hI (by simp [valT]) (Ext.refl _)
  | 34, _, ho, hL, haft =>
   obtain rfl := Option.some.inj ho
   refine AW hI.p1 (hB1.keep hI.ext (by simp)) rfl (AE ?_)
   exact Ag (p := (34, 31, BR pfx)) hI (by simp [valT]) (Ext.refl _)
  | 35, _, ho, hL, haft =>
   obtain rfl := Option.some.inj ho
   have h1 : L 33 = true := Ae (j := 33) (by kernel_rfl) haft
   have h2 : L 34 = true := Ae (j := 34) (by kernel_rfl) haft
   refine Bo (v1 := []) (v2 := []) (vs := [BR pfx, AM [71, 32]]) (hI.vals (33, 30, fn1) (by simp [valT]) h1) (C1 w pfx _) (B9 (hI.vals (34, 31, BR pfx) (by simp [valT]) h2) rfl) ?_
   rintro _ w1 ⟨rfl, k1⟩
   refine AE ?_
   exact Ag (p := (35, 32, An 12)) hI (by simp [valT]) k1
  | 36, _, ho, hL, haft =>
   obtain rfl := Option.some.inj ho
   have h0 : L 0 = true := Ae (j := 0) (by kernel_rfl) haft
   have h1 : L 35 = true := Ae (j := 35) (by kernel_rfl) haft
   obtain ⟨r, M, hr, hlr, hM, hm⟩ := hI.map h0
   refine BO (x := 12) (y := An 12) hr rfl (hI.vals (35, 32, An 12) (by simp [valT]) h1) hM (hI.none (q := (36, 12, An 12)) (by simp [insT]) hL hm) (fun w1 k1 z1 m1 => AE ?_)
   exact BF (q := (36, 12, An 12)) hI (by simp [insT]) hr hlr hm k1 m1 h0
  | 37, _, ho, hL, haft =>
   obtain rfl := Option.some.inj ho
   refine CH (v := fn3) hI.p5 (AE ?_)
   exact Ag (p := (37, 33, fn3)) hI (by simp [valT]) (Ext.refl _)
  | 38, _, ho, hL, haft =>
   obtain rfl := Option.some.inj ho
   refine AW hI.p1 (hB1.keep hI.ext (by simp)) rfl (AE ?_)
   exact Ag (p := (38, 34, BR pfx)) hI (by simp [valT]) (Ext.refl _)
  | 39, _, ho, hL, haft =>
   obtain rfl := Option.some.inj ho
   have h1 : L 37 = true := Ae (j := 37) (by kernel_rfl) haft
   have h2 : L 38 = true := Ae (j := 38) (by kernel_rfl) haft
   refine Bo (v1 := []) (v2 := []) (vs := [BR pfx, AM [70, 91]]) (hI.vals (37, 33, fn3) (by simp [valT]) h1) (bounded_ok w pfx _) (B9 (hI.vals (38, 34, BR pfx) (by simp [valT]) h2) rfl) ?_
   rintro _ w1 ⟨rfl, k1⟩
   refine AE ?_
   exact Ag (p := (39, 35, An 13)) hI (by simp [valT]) k1
  | 40, _, ho, hL, haft =>
   obtain rfl := Option.some.inj ho
   have h0 : L 0 = true := Ae (j := 0) (by kernel_rfl) haft
   have h1 : L 39 = true := Ae (j := 39) (by kernel_rfl) haft
   obtain ⟨r, M, hr, hlr, hM, hm⟩ := hI.map h0
   refine BO (x := 13) (y := An 13) hr rfl (hI.vals (39, 35, An 13) (by simp [valT]) h1) hM (hI.none (q := (40, 13, An 13)) (by simp [insT]) hL hm) (fun w1 k1 z1 m1 => AE ?_)
   exact BF (q := (40, 13, An 13)) hI (by simp [insT]) hr hlr hm k1 m1 h0
  | 41, _, ho, hL, haft =>
   obtain rfl := Option.some.inj ho
   refine CH (v := fn3) hI.p5 (AE ?_)
   exact Ag (p := (41, 36, fn3)) hI (by simp [valT]) (Ext.refl _)
  | 42, _, ho, hL, haft =>
   obtain rfl := Option.some.inj ho
   refine AW hI.p1 (hB1.keep hI.ext (by simp)) rfl (AE ?_)
   exact Ag (p := (42, 37, BR pfx)) hI (by simp [valT]) (Ext.refl _)
  | 43, _, ho, hL, haft =>
   obtain rfl := Option.some.inj ho
   have h1 : L 41 = true := Ae (j := 41) (by kernel_rfl) haft
   have h2 : L 42 = true := Ae (j := 42) (by kernel_rfl) haft
   refine Bo (v1 := []) (v2 := []) (vs := [BR pfx, AM [71, 91]]) (hI.vals (41, 36, fn3) (by simp [valT]) h1) (bounded_ok w pfx _) (B9 (hI.vals (42, 37, BR pfx) (by simp [valT]) h2) rfl) ?_
   rintro _ w1 ⟨rfl, k1⟩
   refine AE ?_
   exact Ag (p := (43, 38, An 14)) hI (by simp [valT]) k1
  | 44, _, ho, hL, haft =>
   obtain rfl := Option.some.inj ho
   have h0 : L 0 = true := Ae (j := 0) (by kernel_rfl) haft
   have h1 : L 43 = true := Ae (j := 43) (by kernel_rfl) haft
   obtain ⟨r, M, hr, hlr, hM, hm⟩ := hI.map h0
   refine BO (x := 14) (y := An 14) hr rfl (hI.vals (43, 38, An 14) (by simp [valT]) h1) hM (hI.none (q := (44, 14, An 14)) (by simp [insT]) hL hm) (fun w1 k1 z1 m1 => AE ?_)
   exact BF (q := (44, 14, An 14)) hI (by simp [insT]) hr hlr hm k1 m1 h0
  | 45, _, ho, hL, haft =>
   obtain rfl := Option.some.inj ho
   refine CH (v := fn2) hI.p4 (AE ?_)
   exact Ag (p := (45, 39, fn2)) hI (by simp [valT]) (Ext.refl _)
  | 46, _, ho, hL, haft =>
   obtain rfl := Option.some.inj ho
   refine AW hI.p1 (hB1.keep hI.ext (by simp)) rfl (AE ?_)
   exact Ag (p := (46, 40, BR pfx)) hI (by simp [valT]) (Ext.refl _)
  | 47, _, ho, hL, haft =>
   obtain rfl := Option.some.inj ho
   have h1 : L 45 = true := Ae (j := 45) (by kernel_rfl) haft
   have h2 : L 46 = true := Ae (j := 46) (by kernel_rfl) haft
   refine Bo (v1 := []) (v2 := []) (vs := [BR pfx, AM [89, 32], .int .i64 1, .int .i64 0]) (hI.vals (45, 39, fn2) (by simp [valT]) h1) (valued_ok w pfx _ 1 0) (B9 (hI.vals (46, 40, BR pfx) (by simp [valT]) h2) rfl) ?_
   rintro _ w1 ⟨rfl, k1⟩
   refine AE ?_
   exact Ag (p := (47, 41, An 15)) hI (by simp [valT]) k1
  | 48, _, ho, hL, haft =>
   obtain rfl := Option.some.inj ho
   have h0 : L 0 = true := Ae (j := 0) (by kernel_rfl) haft
   have h1 : L 47 = true := Ae (j := 47) (by kernel_rfl) haft
   obtain ⟨r, M, hr, hlr, hM, hm⟩ := hI.map h0
   refine BO (x := 15) (y := An 15) hr rfl (hI.vals (47, 41, An 15) (by simp [valT]) h1) hM (hI.none (q := (48, 15, An 15)) (by simp [insT]) hL hm) (fun w1 k1 z1 m1 => AE ?_)
   exact BF (q := (48, 15, An 15)) hI (by simp [insT]) hr hlr hm k1 m1 h0
  | 49, _, ho, hL, haft =>
   obtain rfl := Option.some.inj ho
   refine CH (v := fn2) hI.p4 (AE ?_)
   exact Ag (p := (49, 42, fn2)) hI (by simp [valT]) (Ext.refl _)
  | 50, _, ho, hL, haft =>
   obtain rfl := Option.some.inj ho
   refine AW hI.p2 (hB2.keep hI.ext (by simp)) rfl (AE ?_)
   exact Ag (p := (50, 43, BR ifx)) hI (by simp [valT]) (Ext.refl _)
  | 51, _, ho, hL, haft =>
   obtain rfl := Option.some.inj ho
   have h1 : L 49 = true := Ae (j := 49) (by kernel_rfl) haft
   have h2 : L 50 = true := Ae (j := 50) (by kernel_rfl) haft
   refine Bo (v1 := []) (v2 := []) (vs := [BR ifx, AM [32, 83], .int .i64 9999, .int .i64 0]) (hI.vals (49, 42, fn2) (by simp [valT]) h1) (valued_ok w ifx _ 9999 0) (B9 (hI.vals (50, 43, BR ifx) (by simp [valT]) h2) rfl) ?_
   rintro _ w1 ⟨rfl, k1⟩
   refine AE ?_
   exact Ag (p := (51, 44, An 16)) hI (by simp [valT]) k1
  | 52, _, ho, hL, haft =>
   obtain rfl := Option.some.inj ho
   have h0 : L 0 = true := Ae (j := 0) (by kernel_rfl) haft
   have h1 : L 51 = true := Ae (j := 51) (by kernel_rfl) haft
   obtain ⟨r, M, hr, hlr, hM, hm⟩ := hI.map h0
   refine BO (x := 16) (y := An 16) hr rfl (hI.vals (51, 44, An 16) (by simp [valT]) h1) hM (hI.none (q := (52, 16, An 16)) (by simp [insT]) hL hm) (fun w1 k1 z1 m1 => AE ?_)
   exact BF (q := (52, 16, An 16)) hI (by simp [insT]) hr hlr hm k1 m1 h0
  | 53, _, ho, hL, haft =>
   obtain rfl := Option.some.inj ho
   refine CH (v := fn2) hI.p4 (AE ?_)
   exact Ag (p := (53, 45, fn2)) hI (by simp [valT]) (Ext.refl _)
  | 54, _, ho, hL, haft =>
   obtain rfl := Option.some.inj ho
   refine AW hI.p2 (hB2.keep hI.ext (by simp)) rfl (AE ?_)
   exact Ag (p := (54, 46, BR ifx)) hI (by simp [valT]) (Ext.refl _)
  | 55, _, ho, hL, haft =>
   obtain rfl := Option.some.inj ho
   have h1 : L 53 = true := Ae (j := 53) (by kernel_rfl) haft
   have h2 : L 54 = true := Ae (j := 54) (by kernel_rfl) haft
   refine Bo (v1 := []) (v2 := []) (vs := [BR ifx, AM [32, 84], .int .i64 9999, .int .i64 1]) (hI.vals (53, 45, fn2) (by simp [valT]) h1) (valued_ok w ifx _ 9999 1) (B9 (hI.vals (54, 46, BR ifx) (by simp [valT]) h2) rfl) ?_
   rintro _ w1 ⟨rfl, k1⟩
   refine AE ?_
   exact Ag (p := (55, 47, An 17)) hI (by simp [valT]) k1
  | 56, _, ho, hL, haft =>
   obtain rfl := Option.some.inj ho
   have h0 : L 0 = true := Ae (j := 0) (by kernel_rfl) haft
   have h1 : L 55 = true := Ae (j := 55) (by kernel_rfl) haft
   obtain ⟨r, M, hr, hlr, hM, hm⟩ := hI.map h0
   refine BO (x := 17) (y := An 17) hr rfl (hI.vals (55, 47, An 17) (by simp [valT]) h1) hM (hI.none (q := (56, 17, An 17)) (by simp [insT]) hL hm) (fun w1 k1 z1 m1 => AE ?_)
   exact BF (q := (56, 17, An 17)) hI (by simp [insT]) hr hlr hm k1 m1 h0
  | 57, _, ho, hL, haft =>
   obtain rfl := Option.some.inj ho
   refine CH (v := fn1) hI.p3 (AE ?_)
   exact Ag (p := (57, 48, fn1)) hI (by simp [valT]) (Ext.refl _)
  | 58, _, ho, hL, haft =>
   obtain rfl := Option.some.inj ho
   refine AW hI.p1 (hB1.keep hI.ext (by simp)) rfl (AE ?_)
   exact Ag (p := (58, 49, BR pfx)) hI (by simp [valT]) (Ext.refl _)
  | 59, _, ho, hL, haft =>
   obtain rfl := Option.some.inj ho
   have h1 : L 57 = true := Ae (j := 57) (by kernel_rfl) haft
   have h2 : L 58 = true := Ae (j := 58) (by kernel_rfl) haft
   refine Bo (v1 := []) (v2 := []) (vs := [BR pfx, AM [79, 32]]) (hI.vals (57, 48, fn1) (by simp [valT]) h1) (C1 w pfx _) (B9 (hI.vals (58, 49, BR pfx) (by simp [valT]) h2) rfl) ?_
   rintro _ w1 ⟨rfl, k1⟩
   refine AE ?_
   exact Ag (p := (59, 50, An 18)) hI (by simp [valT]) k1
  | 60, _, ho, hL, haft =>
   obtain rfl := Option.some.inj ho
   have h0 : L 0 = true := Ae (j := 0) (by kernel_rfl) haft
   have h1 : L 59 = true := Ae (j := 59) (by kernel_rfl) haft
   obtain ⟨r, M, hr, hlr, hM, hm⟩ := hI.map h0
   refine BO (x := 18) (y := An 18) hr rfl (hI.vals (59, 50, An 18) (by simp [valT]) h1) hM (hI.none (q := (60, 18, An 18)) (by simp [insT]) hL hm) (fun w1 k1 z1 m1 => AE ?_)
   exact BF (q := (60, 18, An 18)) hI (by simp [insT]) hr hlr hm k1 m1 h0
  | 61, _, ho, hL, haft =>
   obtain rfl := Option.some.inj ho
   refine CH (v := fn1) hI.p3 (AE ?_)
   exact Ag (p := (61, 51, fn1)) hI (by simp [valT]) (Ext.refl _)
  | 62, _, ho, hL, haft =>
   obtain rfl := Option.some.inj ho
   refine AW hI.p1 (hB1.keep hI.ext (by simp)) rfl (AE ?_)
   exact Ag (p := (62, 52, BR pfx)) hI (by simp [valT]) (Ext.refl _)
  | 63, _, ho, hL, haft =>
   obtain rfl := Option.some.inj ho
   have h1 : L 61 = true := Ae (j := 61) (by kernel_rfl) haft
   have h2 : L 62 = true := Ae (j := 62) (by kernel_rfl) haft
   refine Bo (v1 := []) (v2 := []) (vs := [BR pfx, AM [72, 32]]) (hI.vals (61, 51, fn1) (by simp [valT]) h1) (C1 w pfx _) (B9 (hI.vals (62, 52, BR pfx) (by simp [valT]) h2) rfl) ?_
   rintro _ w1 ⟨rfl, k1⟩
   refine AE ?_
   exact Ag (p := (63, 53, An 19)) hI (by simp [valT]) k1
  | 64, _, ho, hL, haft =>
   obtain rfl := Option.some.inj ho
   have h0 : L 0 = true := Ae (j := 0) (by kernel_rfl) haft
   have h1 : L 63 = true := Ae (j := 63) (by kernel_rfl) haft
   obtain ⟨r, M, hr, hlr, hM, hm⟩ := hI.map h0
   refine BO (x := 19) (y := An 19) hr rfl (hI.vals (63, 53, An 19) (by simp [valT]) h1) hM (hI.none (q := (64, 19, An 19)) (by simp [insT]) hL hm) (fun w1 k1 z1 m1 => AE ?_)
   exact BF (q := (64, 19, An 19)) hI (by simp [insT]) hr hlr hm k1 m1 h0
  | 65, _, ho, hL, haft =>
   obtain rfl := Option.some.inj ho
   have h0 : L 0 = true := Ae (j := 0) (by kernel_rfl) haft
   refine CH (v := f 8) rfl (AE ?_)
   exact styInv_65 hI h0
  | 66, _, ho, hL, haft =>
   obtain rfl := Option.some.inj ho
   have h0 : L 65 = true := Ae (j := 65) (by kernel_rfl) haft
   refine AB ?_
   refine CH (v := f 54) rfl (AE ?_)
   exact styInv_66 hI h0
 ·intro L f ds w hI hall
  obtain ⟨h54, _⟩ := hI.l66 (hall 66 (by decide))
  obtain ⟨r, M, e1, e2, e3, e4⟩ := hI.map (hall 0 (by decide))
  repeat' first | refine nx rfl ?_ | fail
  obtain rfl := hI.ds
  refine AL rfl ⟨r, by rw [h54, e1], k2.trans hI.ext, Nat.le_trans k2.size e2, M, e3, fun op => ?_⟩
  cases hs : BS op with
  | none =>
   refine vlookup_none fun p hp e => ?_
   obtain ⟨q, hq, _, h2, _⟩ := (e4 p.1 p.2).1 hp
   have := ins_sty q hq
   rw [← h2, e, hs] at this
   cases this
  | some s =>
   obtain ⟨q, hq, hk⟩ := sty_ins hs
   have hv := ins_sty q hq
   rw [hk, hs] at hv
   have hv : BR s = q.2.2 := Option.some.inj hv
   have hm : (op, BR s) ∈ M := (e4 _ _).2 ⟨q, hq, hall _ (i_ops q hq).1, hk.symm, hv⟩
   exact vlookup_at (nodup_vint e3) hm
end Go.Proofs.YtfcgdbmoncnibaaGreatDoor
namespace Go.Proofs.YtfcgdbmoncnibaaGreatDoor
open Go.RowKit
set_option linter.unusedVariables false
structure GP (w : World) : Prop where
 gk : GK w
 pow : Lib.TabIs Tryz.prog w "internal/strconv.uint64pow10" .u64 Lib.pow10Tab
theorem pow_block {w : World} (h : Lib.TabIs Tryz.prog w "internal/strconv.uint64pow10" .u64 Lib.pow10Tab) : ∃ g, Tryz.prog.globalNamed "internal/strconv.uint64pow10" = some g ∧ g < 10 ∧ g < w.heap.size := by
 have hg : Tryz.prog.globalNamed "internal/strconv.uint64pow10" = some 7 := by kernel_rfl
 refine ⟨_, hg, by decide, ?_⟩
 unfold Lib.TabIs World.var? at h
 rw [hg] at h
 simp only [Option.bind_some] at h
 split at h
 ·rename_i heq; exact (Array.getElem?_eq_some_iff.1 heq).1
 ·cases h
theorem GP.keep {X : List Nat} {w w' : World} (h : GP w) (k : Keep X w w') (hX : ∀ x ∈ X, 10 ≤ x) : GP w' := by
 refine ⟨h.gk.keep k hX, ?_⟩
 obtain ⟨g, hg, h1, h2⟩ := pow_block h.pow
 have hp := h.pow
 unfold Lib.TabIs World.var? at hp ⊢
 rw [hg] at hp ⊢
 simp only [Option.bind_some] at hp ⊢
 rw [k.block g h2 (fun hx => by have := hX _ hx; omega)]
 exact hp
theorem GP.ext {w w' : World} (h : GP w) (k : Ext w w') : GP w' := h.keep k fun x hx => by cases hx
theorem ext_grow {w : World} {k : Nat} {os : Array Obj} : Ext w (Go.Sort.grow (w.drewN k) os) := by
 refine ⟨rfl, rfl, rfl, by simp [Go.Sort.grow, World.drewN], fun b hb _ => ?_, fun h => h.elim⟩
 simp only [Go.Sort.grow, World.drewN]
 rw [Array.getElem?_append_left hb]
theorem itoa_digs {n : Int} (h : 0 ≤ n) : Lib.itoa n = numT n := by
 unfold Lib.itoa numT
 rw [if_neg (by omega)]
 have : ∀ (m k : Nat), k ≤ m → Lib.decDigits k = digs k := by
  intro m
  induction m with
  | zero =>
   intro k hk
   rw [Lib.decDigits, dif_pos (by omega), Cc (by omega)]
  | succ m ih =>
   intro k hk
   by_cases h1 : k < 10
   ·rw [Lib.decDigits, dif_pos h1, Cc h1]
   ·rw [Lib.decDigits, dif_neg h1, digs_big (by omega), ih (k / 10) (by omega)]
 exact this _ _ (Nat.le_refl _)
theorem itoa_ok (w : World) (n : Int) (h0 : 0 ≤ n) (h1 : n ≤ 9999) (hG : GP w) : Fn Tryz.prog 154 [.int .i64 n] w fun v w' => v = AM (numT n) ∧ Ext w w' := by
 refine Calls.mono (Tryz.strconv_Itoa n (by omega) (by omega) w hG.pow) ?_
 rintro e w' ⟨rfl, k, os, rfl⟩
 rw [itoa_digs h0]
 exact ⟨rfl, ext_grow⟩
def unp : List PanicEntry := [{ v := .iface 186 (.agg #[]), recovered := false }]
theorem Bh (w : World) (b : Bool) : FnP Tryz.prog 76 [.bool b] w (fun v w' => v = .tuple #[] ∧ b = true ∧ w' = w) (fun ch w' => ch = unp ∧ b = false ∧ w' = w) := by
 refine Ap Tryz.func76 rfl Tryz.ntmps76 (Nat.le_of_ble_eq_true rfl) (by kernel_rfl) ?_
 repeat' first | refine nx rfl ?_ | fail
 refine AA (AC rfl (A4 rfl (AE ?_)))
 cases b with
 | true =>
  repeat' first | refine nx rfl ?_ | refine nf rfl ?_
  exact Au rfl ⟨rfl, rfl, rfl⟩
 | false =>
  repeat' first | refine nx rfl ?_ | fail
  (refine AA ?_ <;> refine Ac (by rfl) (by rfl) ?_ <;> refine Cj (Ck rfl ?_))
  repeat' first | refine nx rfl ?_ | fail
  exact AY ⟨rfl, rfl, rfl⟩
theorem wname_ok (w : World) (s : List UInt8) (hG : GK w) : FnP Tryz.prog 83 [AM s] w (fun v w' => v = AM s ∧ BW s = true ∧ w' = w) (fun ch w' => ch = unp ∧ BW s = false ∧ w' = w) := by
 refine Ap Tryz.func83 rfl Tryz.ntmps83 (Nat.le_of_ble_eq_true rfl) (by kernel_rfl) ?_
 repeat' first | refine nx rfl ?_ | fail
 refine AA (AB (AT rfl ?_))
 repeat' first | refine nx rfl ?_ | fail
 refine AA (AT rfl ?_)
 refine AR (sigName_ok s w hG) rfl ?_
 rintro v w1 ⟨rfl, rfl⟩
 refine AZ (Bh w1 (BW s)) rfl ?_ ?_
 rotate_left
 ·rintro ch w2 ⟨rfl, hb, rfl⟩
  repeat' first | refine nx rfl ?_ | fail
  exact AY ⟨rfl, hb, rfl⟩
 rintro v w2 ⟨rfl, hb, rfl⟩
 repeat' first | refine nx rfl ?_ | fail
 refine AA (AT rfl (AB (AT rfl ?_)))
 repeat' first | refine nx rfl ?_ | fail
 exact AL rfl ⟨rfl, hb, rfl⟩
def numB (n : Int) : Bool := decide (0 ≤ n) && decide (n ≤ 9999)
theorem wnumber_ok (w : World) (n : Int) (hG : GP w) : FnP Tryz.prog 127 [.int .i64 n] w (fun v w' => v = AM (numT n) ∧ numB n = true ∧ Ext w w') (fun ch w' => ch = unp ∧ numB n = false ∧ w' = w) := by
 refine Ap Tryz.func127 rfl Tryz.ntmps127 (Nat.le_of_ble_eq_true rfl) (by kernel_rfl) ?_
 repeat' first | refine nx rfl ?_ | fail
 refine AA (AB (AT rfl ?_))
 repeat' first | refine nx rfl ?_ | fail
 by_cases h0 : 0 ≤ n
 ·by_cases h1 : n ≤ 9999
  ·(refine AA (AI rfl ?_) <;> (refine Cu rfl rfl (fun hc => ?_) (fun hc => ?_) <;> try omega) <;> refine AC rfl (AF rfl (AI rfl ?_)) <;> (refine AF rfl ?_; (refine Bf rfl rfl (fun hc => ?_) (fun hc => ?_) <;> try omega)) <;> refine AN rfl (AC rfl ?_))
   refine AZ (Bh w true) rfl ?_ ?_
   rotate_left
   ·rintro ch w2 ⟨_, hb, _⟩; cases hb
   rintro v w2 ⟨rfl, hb, rfl⟩
   repeat' first | refine nx rfl ?_ | fail
   refine AA (AI rfl ?_)
   refine AR (itoa_ok w2 n h0 h1 hG) rfl ?_
   rintro v w3 ⟨rfl, k3⟩
   ((refine AB ?_; refine AT rfl ?_))
   repeat' first | refine nx rfl ?_ | fail
   exact AL rfl ⟨rfl, by simp [numB, h0, h1], k3⟩
  ·(refine AA (AI rfl ?_) <;> (refine Cu rfl rfl (fun hc => ?_) (fun hc => ?_) <;> try omega) <;> refine AC rfl (AF rfl (AI rfl ?_)) <;> (refine AF rfl ?_; (refine Bf rfl rfl (fun hc => ?_) (fun hc => ?_) <;> try omega)) <;> refine AN rfl (AC rfl ?_))
   refine AZ (Bh w false) rfl ?_ ?_
   ·rintro v w2 ⟨_, hb, _⟩; cases hb
   rintro ch w2 ⟨rfl, hb, rfl⟩
   repeat' first | refine nx rfl ?_ | fail
   exact AY ⟨rfl, by simp [numB, h1], rfl⟩
 ·(refine AA (AI rfl ?_) <;> (refine Cu rfl rfl (fun hc => ?_) (fun hc => ?_) <;> try omega) <;> refine AC rfl (AK rfl (AK rfl (AQ rfl (AC rfl ?_)))))
  refine AZ (Bh w false) rfl ?_ ?_
  ·rintro v w2 ⟨_, hb, _⟩; cases hb
  rintro ch w2 ⟨rfl, hb, rfl⟩
  repeat' first | refine nx rfl ?_ | fail
  exact AY ⟨rfl, by simp [numB, h0], rfl⟩
end Go.Proofs.YtfcgdbmoncnibaaGreatDoor
namespace Go.Proofs.YtfcgdbmoncnibaaGreatDoor
open Go.RowKit
set_option linter.unusedVariables false
def nodeC (s : Sty) (f : Fml) : Bool := decide (s.least ≤ f.args.length ∧ f.args.length ≤ s.most) && decide (0 ≤ f.val ∧ f.val ≤ (s.val : Int)) && decide (0 ≤ f.bound ∧ f.bound ≤ (s.bound : Int)) && (decide (f.op = 3) || f.name.isEmpty)
theorem check_ok (w : World) (s : Sty) (b o : Nat) (f : Fml) (a : Option Addr) (c : Nat) (hcl : Cells w b o (fcC f (.slice a f.args.length c))) : FnP Tryz.prog 123 [BR s, .pointer (some ⟨b, o, none⟩)] w
  (fun v w' => v = .tuple #[] ∧ Ext w w' ∧ nodeC s f = true) (fun ch w' => ch = unp ∧ Ext w w' ∧ nodeC s f = false) := by
 refine Ap Tryz.func123 rfl Tryz.ntmps123 (Nat.le_of_ble_eq_true rfl) (by kernel_rfl) ?_
 repeat' first | refine nx rfl ?_ | fail
 (refine AA ?_; refine BL (L := By s) rfl (fun w1 n1 => AE ?_))
 have b1 := n1.blk
 have k1 := n1.keep
 repeat' first | refine nx rfl ?_ | fail
 by_cases q1 : s.least ≤ f.args.length
 case neg =>
  refine Bj (.read 0 (.read 1 (.read 2 (.read 3 (.read 4 (.read 5 (.read 6 (.read 7 (.read 8 (.read 9 (.read 10 (.read 11 (.read 12 (.read 13 (.read 14 (.read 15 (.read 16 (.read 17 (.alt 18 .done .stop))))))))))))))))))) A6 (by kernel_rfl) (by repeat (first | exact BI | refine A9 ?_)) (fun wd kd ed => ⟨Ext wd, ?_, ?_⟩)
  ·exact Ext.refl _
  have bd := b1.keep kd (by simp)
  have fa : ∀ W, Ext wd W → W.cell? ⟨b, o + 4, none⟩ = some (.slice a f.args.length c) := fun W e => ((k1.trans kd).trans e).cell (hcl 4 _ rfl) (by simp)
  have fb : ∀ W, Ext wd W → W.cell? ⟨b, o + 2, none⟩ = some (.int .i64 f.val) := fun W e => ((k1.trans kd).trans e).cell (hcl 2 _ rfl) (by simp)
  have fc : ∀ W, Ext wd W → W.cell? ⟨b, o + 3, none⟩ = some (.int .i64 f.bound) := fun W e => ((k1.trans kd).trans e).cell (hcl 3 _ rfl) (by simp)
  have g4 : ∀ W, Ext wd W → W.cell? ⟨w.heap.size, 0 + 4, none⟩ = some (.int .i64 (s.least : Int)) := fun W e => (bd.keep e (by simp)).cell rfl
  have g5 : ∀ W, Ext wd W → W.cell? ⟨w.heap.size, 0 + 5, none⟩ = some (.int .i64 (s.most : Int)) := fun W e => (bd.keep e (by simp)).cell rfl
  have g6 : ∀ W, Ext wd W → W.cell? ⟨w.heap.size, 0 + 6, none⟩ = some (.int .i64 (s.val : Int)) := fun W e => (bd.keep e (by simp)).cell rfl
  have g7 : ∀ W, Ext wd W → W.cell? ⟨w.heap.size, 0 + 7, none⟩ = some (.int .i64 (s.bound : Int)) := fun W e => (bd.keep e (by simp)).cell rfl
  ((apply D_R rfl rfl; (intro W hW; refine AP rfl ?_; exact AE ⟨rfl, rfl, rfl⟩)) <;> (apply D_R rfl rfl; (intro W hW; refine AJ rfl ?_; exact AE ⟨rfl, rfl, rfl⟩)) <;> (apply D_R rfl rfl; (intro W hW; refine AD rfl ?_; exact AE ⟨rfl, rfl, rfl⟩)) <;> (apply D_R rfl rfl; (intro W hW; refine AG rfl (fa W hW) ?_; exact AE ⟨rfl, rfl, rfl⟩)) <;> (apply D_R rfl rfl; (intro W hW; refine Ao rfl ?_; exact AE ⟨rfl, rfl, rfl⟩)) <;> (apply D_R rfl rfl; (intro W hW; refine AD rfl ?_; exact AE ⟨rfl, rfl, rfl⟩)) <;> (apply D_R rfl rfl; (intro W hW; refine AG rfl (g4 W hW) ?_; exact AE ⟨rfl, rfl, rfl⟩)) <;> (refine D_geq rfl rfl rfl rfl (fun hc => ?_) (fun hc => ?_) <;> try omega) <;> (apply D_R rfl rfl; (intro W hW; refine AC rfl ?_; exact AE ⟨rfl, rfl, rfl⟩)) <;> refine Ab rfl rfl rfl rfl (Ab rfl rfl rfl rfl (Ab rfl rfl rfl rfl (Ab rfl rfl rfl rfl (Ab rfl rfl rfl rfl (Ab rfl rfl rfl rfl (Ab rfl rfl rfl rfl (Ab rfl rfl rfl rfl ?_))))))) <;> (apply D_R rfl rfl; (intro W hW; (refine AQ rfl ?_; refine AC rfl ?_); exact AE ⟨rfl, rfl, rfl⟩)))
  refine D_E rfl ?_
  refine AZ (Bh wd false) rfl ?_ ?_
  ·rintro v w2 ⟨_, hb, _⟩; cases hb
  rintro ch w2 ⟨rfl, hb, rfl⟩
  repeat' first | refine nx rfl ?_ | fail
  exact AY ⟨rfl, k1.trans kd, by simp [nodeC, q1]⟩
 by_cases q2 : f.args.length ≤ s.most
 case neg =>
  refine Bj (.read 0 (.read 1 (.read 2 (.read 3 (.read 4 (.read 5 (.read 6 (.read 7 (.read 8 (.read 9 (.read 10 (.read 11 (.read 12 (.read 13 (.read 14 (.read 15 (.read 16 (.read 17 (.alt 18 .done .stop))))))))))))))))))) A6 (by kernel_rfl) (by repeat (first | exact BI | refine A9 ?_)) (fun wd kd ed => ⟨Ext wd, ?_, ?_⟩)
  ·exact Ext.refl _
  have bd := b1.keep kd (by simp)
  have fa : ∀ W, Ext wd W → W.cell? ⟨b, o + 4, none⟩ = some (.slice a f.args.length c) := fun W e => ((k1.trans kd).trans e).cell (hcl 4 _ rfl) (by simp)
  have fb : ∀ W, Ext wd W → W.cell? ⟨b, o + 2, none⟩ = some (.int .i64 f.val) := fun W e => ((k1.trans kd).trans e).cell (hcl 2 _ rfl) (by simp)
  have fc : ∀ W, Ext wd W → W.cell? ⟨b, o + 3, none⟩ = some (.int .i64 f.bound) := fun W e => ((k1.trans kd).trans e).cell (hcl 3 _ rfl) (by simp)
  have g4 : ∀ W, Ext wd W → W.cell? ⟨w.heap.size, 0 + 4, none⟩ = some (.int .i64 (s.least : Int)) := fun W e => (bd.keep e (by simp)).cell rfl
  have g5 : ∀ W, Ext wd W → W.cell? ⟨w.heap.size, 0 + 5, none⟩ = some (.int .i64 (s.most : Int)) := fun W e => (bd.keep e (by simp)).cell rfl
  have g6 : ∀ W, Ext wd W → W.cell? ⟨w.heap.size, 0 + 6, none⟩ = some (.int .i64 (s.val : Int)) := fun W e => (bd.keep e (by simp)).cell rfl
  have g7 : ∀ W, Ext wd W → W.cell? ⟨w.heap.size, 0 + 7, none⟩ = some (.int .i64 (s.bound : Int)) := fun W e => (bd.keep e (by simp)).cell rfl
  ((apply D_R rfl rfl; (intro W hW; refine AP rfl ?_; exact AE ⟨rfl, rfl, rfl⟩)) <;> (apply D_R rfl rfl; (intro W hW; refine AJ rfl ?_; exact AE ⟨rfl, rfl, rfl⟩)) <;> (apply D_R rfl rfl; (intro W hW; refine AD rfl ?_; exact AE ⟨rfl, rfl, rfl⟩)) <;> (apply D_R rfl rfl; (intro W hW; refine AG rfl (fa W hW) ?_; exact AE ⟨rfl, rfl, rfl⟩)) <;> (apply D_R rfl rfl; (intro W hW; refine Ao rfl ?_; exact AE ⟨rfl, rfl, rfl⟩)) <;> (apply D_R rfl rfl; (intro W hW; refine AD rfl ?_; exact AE ⟨rfl, rfl, rfl⟩)) <;> (apply D_R rfl rfl; (intro W hW; refine AG rfl (g4 W hW) ?_; exact AE ⟨rfl, rfl, rfl⟩)) <;> (refine D_geq rfl rfl rfl rfl (fun hc => ?_) (fun hc => ?_) <;> try omega) <;> (apply D_R rfl rfl; (intro W hW; refine AC rfl ?_; exact AE ⟨rfl, rfl, rfl⟩)) <;> (apply D_R rfl rfl; (intro W hW; (refine AF rfl ?_; refine AP rfl ?_); exact AE ⟨rfl, rfl, rfl⟩)) <;> (apply D_R rfl rfl; (intro W hW; (refine AF rfl ?_; refine AJ rfl ?_); exact AE ⟨rfl, rfl, rfl⟩)) <;> (apply D_R rfl rfl; (intro W hW; (refine AF rfl ?_; refine AD rfl ?_); exact AE ⟨rfl, rfl, rfl⟩)) <;> (apply D_R rfl rfl; (intro W hW; (refine AF rfl ?_; refine AG rfl (fa W hW) ?_); exact AE ⟨rfl, rfl, rfl⟩)) <;> (apply D_R rfl rfl; (intro W hW; (refine AF rfl ?_; refine Ao rfl ?_); exact AE ⟨rfl, rfl, rfl⟩)) <;> (apply D_R rfl rfl; (intro W hW; (refine AF rfl ?_; refine AD rfl ?_); exact AE ⟨rfl, rfl, rfl⟩)) <;> (apply D_R rfl rfl; (intro W hW; (refine AF rfl ?_; refine AG rfl (g5 W hW) ?_); exact AE ⟨rfl, rfl, rfl⟩)) <;> (refine D_leq rfl rfl rfl rfl (fun hc => ?_) (fun hc => ?_) <;> try omega) <;> (apply D_R rfl rfl; (intro W hW; (refine AN rfl ?_; refine AC rfl ?_); exact AE ⟨rfl, rfl, rfl⟩)))
  refine D_E rfl ?_
  refine AZ (Bh wd false) rfl ?_ ?_
  ·rintro v w2 ⟨_, hb, _⟩; cases hb
  rintro ch w2 ⟨rfl, hb, rfl⟩
  repeat' first | refine nx rfl ?_ | fail
  exact AY ⟨rfl, k1.trans kd, by simp [nodeC, q2]⟩
 refine Bj (.read 0 (.read 1 (.read 2 (.read 3 (.read 4 (.read 5 (.read 6 (.read 7 (.read 8 (.read 9 (.read 10 (.read 11 (.read 12 (.read 13 (.read 14 (.read 15 (.read 16 (.read 17 (.alt 18 .done .stop))))))))))))))))))) A6 (by kernel_rfl) (by repeat (first | exact BI | refine A9 ?_)) (fun wd kd ed => ⟨Ext wd, ?_, ?_⟩)
 ·exact Ext.refl _
 have bd := b1.keep kd (by simp)
 have fa : ∀ W, Ext wd W → W.cell? ⟨b, o + 4, none⟩ = some (.slice a f.args.length c) := fun W e => ((k1.trans kd).trans e).cell (hcl 4 _ rfl) (by simp)
 have fb : ∀ W, Ext wd W → W.cell? ⟨b, o + 2, none⟩ = some (.int .i64 f.val) := fun W e => ((k1.trans kd).trans e).cell (hcl 2 _ rfl) (by simp)
 have fc : ∀ W, Ext wd W → W.cell? ⟨b, o + 3, none⟩ = some (.int .i64 f.bound) := fun W e => ((k1.trans kd).trans e).cell (hcl 3 _ rfl) (by simp)
 have g4 : ∀ W, Ext wd W → W.cell? ⟨w.heap.size, 0 + 4, none⟩ = some (.int .i64 (s.least : Int)) := fun W e => (bd.keep e (by simp)).cell rfl
 have g5 : ∀ W, Ext wd W → W.cell? ⟨w.heap.size, 0 + 5, none⟩ = some (.int .i64 (s.most : Int)) := fun W e => (bd.keep e (by simp)).cell rfl
 have g6 : ∀ W, Ext wd W → W.cell? ⟨w.heap.size, 0 + 6, none⟩ = some (.int .i64 (s.val : Int)) := fun W e => (bd.keep e (by simp)).cell rfl
 have g7 : ∀ W, Ext wd W → W.cell? ⟨w.heap.size, 0 + 7, none⟩ = some (.int .i64 (s.bound : Int)) := fun W e => (bd.keep e (by simp)).cell rfl
 ((apply D_R rfl rfl; (intro W hW; refine AP rfl ?_; exact AE ⟨rfl, rfl, rfl⟩)) <;> (apply D_R rfl rfl; (intro W hW; refine AJ rfl ?_; exact AE ⟨rfl, rfl, rfl⟩)) <;> (apply D_R rfl rfl; (intro W hW; refine AD rfl ?_; exact AE ⟨rfl, rfl, rfl⟩)) <;> (apply D_R rfl rfl; (intro W hW; refine AG rfl (fa W hW) ?_; exact AE ⟨rfl, rfl, rfl⟩)) <;> (apply D_R rfl rfl; (intro W hW; refine Ao rfl ?_; exact AE ⟨rfl, rfl, rfl⟩)) <;> (apply D_R rfl rfl; (intro W hW; refine AD rfl ?_; exact AE ⟨rfl, rfl, rfl⟩)) <;> (apply D_R rfl rfl; (intro W hW; refine AG rfl (g4 W hW) ?_; exact AE ⟨rfl, rfl, rfl⟩)) <;> (refine D_geq rfl rfl rfl rfl (fun hc => ?_) (fun hc => ?_) <;> try omega) <;> (apply D_R rfl rfl; (intro W hW; refine AC rfl ?_; exact AE ⟨rfl, rfl, rfl⟩)) <;> (apply D_R rfl rfl; (intro W hW; (refine AF rfl ?_; refine AP rfl ?_); exact AE ⟨rfl, rfl, rfl⟩)) <;> (apply D_R rfl rfl; (intro W hW; (refine AF rfl ?_; refine AJ rfl ?_); exact AE ⟨rfl, rfl, rfl⟩)) <;> (apply D_R rfl rfl; (intro W hW; (refine AF rfl ?_; refine AD rfl ?_); exact AE ⟨rfl, rfl, rfl⟩)) <;> (apply D_R rfl rfl; (intro W hW; (refine AF rfl ?_; refine AG rfl (fa W hW) ?_); exact AE ⟨rfl, rfl, rfl⟩)) <;> (apply D_R rfl rfl; (intro W hW; (refine AF rfl ?_; refine Ao rfl ?_); exact AE ⟨rfl, rfl, rfl⟩)) <;> (apply D_R rfl rfl; (intro W hW; (refine AF rfl ?_; refine AD rfl ?_); exact AE ⟨rfl, rfl, rfl⟩)) <;> (apply D_R rfl rfl; (intro W hW; (refine AF rfl ?_; refine AG rfl (g5 W hW) ?_); exact AE ⟨rfl, rfl, rfl⟩)) <;> (refine D_leq rfl rfl rfl rfl (fun hc => ?_) (fun hc => ?_) <;> try omega) <;> (apply D_R rfl rfl; (intro W hW; (refine AN rfl ?_; refine AC rfl ?_); exact AE ⟨rfl, rfl, rfl⟩)))
 refine D_E rfl ?_
 refine AZ (Bh wd true) rfl ?_ ?_
 rotate_left
 ·rintro ch w2 ⟨_, hb, _⟩; cases hb
 rintro v w2 ⟨rfl, hb, rfl⟩
 refine AE ⟨Ext w2, fun _ e => e, Ext.refl _, ?_⟩
 refine A0 ?_
 repeat' first | refine nx rfl ?_ | fail
 replace k1 := k1.trans kd
 clear fa fb fc g4 g5 g6 g7 kd ed b1
 have b1 := bd
 clear bd
 by_cases q3 : 0 ≤ f.val
 case neg =>
  refine Bj (.read 0 (.read 1 (.read 2 (.read 3 (.read 4 (.read 5 (.read 6 (.read 7 (.read 8 (.read 9 (.read 10 (.read 11 (.read 12 (.read 13 (.alt 14 .done .stop))))))))))))))) A6 (by kernel_rfl) (by repeat (first | exact BI | refine A9 ?_)) (fun wd kd ed => ⟨Ext wd, ?_, ?_⟩)
  ·exact Ext.refl _
  have bd := b1.keep kd (by simp)
  have fa : ∀ W, Ext wd W → W.cell? ⟨b, o + 4, none⟩ = some (.slice a f.args.length c) := fun W e => ((k1.trans kd).trans e).cell (hcl 4 _ rfl) (by simp)
  have fb : ∀ W, Ext wd W → W.cell? ⟨b, o + 2, none⟩ = some (.int .i64 f.val) := fun W e => ((k1.trans kd).trans e).cell (hcl 2 _ rfl) (by simp)
  have fc : ∀ W, Ext wd W → W.cell? ⟨b, o + 3, none⟩ = some (.int .i64 f.bound) := fun W e => ((k1.trans kd).trans e).cell (hcl 3 _ rfl) (by simp)
  have g4 : ∀ W, Ext wd W → W.cell? ⟨w.heap.size, 0 + 4, none⟩ = some (.int .i64 (s.least : Int)) := fun W e => (bd.keep e (by simp)).cell rfl
  have g5 : ∀ W, Ext wd W → W.cell? ⟨w.heap.size, 0 + 5, none⟩ = some (.int .i64 (s.most : Int)) := fun W e => (bd.keep e (by simp)).cell rfl
  have g6 : ∀ W, Ext wd W → W.cell? ⟨w.heap.size, 0 + 6, none⟩ = some (.int .i64 (s.val : Int)) := fun W e => (bd.keep e (by simp)).cell rfl
  have g7 : ∀ W, Ext wd W → W.cell? ⟨w.heap.size, 0 + 7, none⟩ = some (.int .i64 (s.bound : Int)) := fun W e => (bd.keep e (by simp)).cell rfl
  ((apply D_R rfl rfl; (intro W hW; refine AP rfl ?_; exact AE ⟨rfl, rfl, rfl⟩)) <;> (apply D_R rfl rfl; (intro W hW; refine AJ rfl ?_; exact AE ⟨rfl, rfl, rfl⟩)) <;> (apply D_R rfl rfl; (intro W hW; refine AD rfl ?_; exact AE ⟨rfl, rfl, rfl⟩)) <;> (apply D_R rfl rfl; (intro W hW; refine AG rfl (fb W hW) ?_; exact AE ⟨rfl, rfl, rfl⟩)) <;> (refine D_geq rfl rfl rfl rfl (fun hc => ?_) (fun hc => ?_) <;> try omega) <;> (apply D_R rfl rfl; (intro W hW; refine AC rfl ?_; exact AE ⟨rfl, rfl, rfl⟩)) <;> refine Ab rfl rfl rfl rfl (Ab rfl rfl rfl rfl (Ab rfl rfl rfl rfl (Ab rfl rfl rfl rfl (Ab rfl rfl rfl rfl (Ab rfl rfl rfl rfl (Ab rfl rfl rfl rfl ?_)))))) <;> (apply D_R rfl rfl; (intro W hW; (refine AQ rfl ?_; refine AC rfl ?_); exact AE ⟨rfl, rfl, rfl⟩)))
  refine D_E rfl ?_
  refine AZ (Bh wd false) rfl ?_ ?_
  ·rintro v w2 ⟨_, hb, _⟩; cases hb
  rintro ch w2 ⟨rfl, hb, rfl⟩
  repeat' first | refine nx rfl ?_ | fail
  exact AY ⟨rfl, k1.trans kd, by simp [nodeC, q3]⟩
 by_cases q4 : f.val ≤ (s.val : Int)
 case neg =>
  refine Bj (.read 0 (.read 1 (.read 2 (.read 3 (.read 4 (.read 5 (.read 6 (.read 7 (.read 8 (.read 9 (.read 10 (.read 11 (.read 12 (.read 13 (.alt 14 .done .stop))))))))))))))) A6 (by kernel_rfl) (by repeat (first | exact BI | refine A9 ?_)) (fun wd kd ed => ⟨Ext wd, ?_, ?_⟩)
  ·exact Ext.refl _
  have bd := b1.keep kd (by simp)
  have fa : ∀ W, Ext wd W → W.cell? ⟨b, o + 4, none⟩ = some (.slice a f.args.length c) := fun W e => ((k1.trans kd).trans e).cell (hcl 4 _ rfl) (by simp)
  have fb : ∀ W, Ext wd W → W.cell? ⟨b, o + 2, none⟩ = some (.int .i64 f.val) := fun W e => ((k1.trans kd).trans e).cell (hcl 2 _ rfl) (by simp)
  have fc : ∀ W, Ext wd W → W.cell? ⟨b, o + 3, none⟩ = some (.int .i64 f.bound) := fun W e => ((k1.trans kd).trans e).cell (hcl 3 _ rfl) (by simp)
  have g4 : ∀ W, Ext wd W → W.cell? ⟨w.heap.size, 0 + 4, none⟩ = some (.int .i64 (s.least : Int)) := fun W e => (bd.keep e (by simp)).cell rfl
  have g5 : ∀ W, Ext wd W → W.cell? ⟨w.heap.size, 0 + 5, none⟩ = some (.int .i64 (s.most : Int)) := fun W e => (bd.keep e (by simp)).cell rfl
  have g6 : ∀ W, Ext wd W → W.cell? ⟨w.heap.size, 0 + 6, none⟩ = some (.int .i64 (s.val : Int)) := fun W e => (bd.keep e (by simp)).cell rfl
  have g7 : ∀ W, Ext wd W → W.cell? ⟨w.heap.size, 0 + 7, none⟩ = some (.int .i64 (s.bound : Int)) := fun W e => (bd.keep e (by simp)).cell rfl
  ((apply D_R rfl rfl; (intro W hW; refine AP rfl ?_; exact AE ⟨rfl, rfl, rfl⟩)) <;> (apply D_R rfl rfl; (intro W hW; refine AJ rfl ?_; exact AE ⟨rfl, rfl, rfl⟩)) <;> (apply D_R rfl rfl; (intro W hW; refine AD rfl ?_; exact AE ⟨rfl, rfl, rfl⟩)) <;> (apply D_R rfl rfl; (intro W hW; refine AG rfl (fb W hW) ?_; exact AE ⟨rfl, rfl, rfl⟩)) <;> (refine D_geq rfl rfl rfl rfl (fun hc => ?_) (fun hc => ?_) <;> try omega) <;> (apply D_R rfl rfl; (intro W hW; refine AC rfl ?_; exact AE ⟨rfl, rfl, rfl⟩)) <;> (apply D_R rfl rfl; (intro W hW; (refine AF rfl ?_; refine AP rfl ?_); exact AE ⟨rfl, rfl, rfl⟩)) <;> (apply D_R rfl rfl; (intro W hW; (refine AF rfl ?_; refine AJ rfl ?_); exact AE ⟨rfl, rfl, rfl⟩)) <;> (apply D_R rfl rfl; (intro W hW; (refine AF rfl ?_; refine AD rfl ?_); exact AE ⟨rfl, rfl, rfl⟩)) <;> (apply D_R rfl rfl; (intro W hW; (refine AF rfl ?_; refine AG rfl (fb W hW) ?_); exact AE ⟨rfl, rfl, rfl⟩)) <;> (apply D_R rfl rfl; (intro W hW; (refine AF rfl ?_; refine AD rfl ?_); exact AE ⟨rfl, rfl, rfl⟩)) <;> (apply D_R rfl rfl; (intro W hW; (refine AF rfl ?_; refine AG rfl (g6 W hW) ?_); exact AE ⟨rfl, rfl, rfl⟩)) <;> (refine D_leq rfl rfl rfl rfl (fun hc => ?_) (fun hc => ?_) <;> try omega) <;> (apply D_R rfl rfl; (intro W hW; (refine AN rfl ?_; refine AC rfl ?_); exact AE ⟨rfl, rfl, rfl⟩)))
  refine D_E rfl ?_
  refine AZ (Bh wd false) rfl ?_ ?_
  ·rintro v w2 ⟨_, hb, _⟩; cases hb
  rintro ch w2 ⟨rfl, hb, rfl⟩
  repeat' first | refine nx rfl ?_ | fail
  exact AY ⟨rfl, k1.trans kd, by simp [nodeC, q4]⟩
 refine Bj (.read 0 (.read 1 (.read 2 (.read 3 (.read 4 (.read 5 (.read 6 (.read 7 (.read 8 (.read 9 (.read 10 (.read 11 (.read 12 (.read 13 (.alt 14 .done .stop))))))))))))))) A6 (by kernel_rfl) (by repeat (first | exact BI | refine A9 ?_)) (fun wd kd ed => ⟨Ext wd, ?_, ?_⟩)
 ·exact Ext.refl _
 have bd := b1.keep kd (by simp)
 have fa : ∀ W, Ext wd W → W.cell? ⟨b, o + 4, none⟩ = some (.slice a f.args.length c) := fun W e => ((k1.trans kd).trans e).cell (hcl 4 _ rfl) (by simp)
 have fb : ∀ W, Ext wd W → W.cell? ⟨b, o + 2, none⟩ = some (.int .i64 f.val) := fun W e => ((k1.trans kd).trans e).cell (hcl 2 _ rfl) (by simp)
 have fc : ∀ W, Ext wd W → W.cell? ⟨b, o + 3, none⟩ = some (.int .i64 f.bound) := fun W e => ((k1.trans kd).trans e).cell (hcl 3 _ rfl) (by simp)
 have g4 : ∀ W, Ext wd W → W.cell? ⟨w.heap.size, 0 + 4, none⟩ = some (.int .i64 (s.least : Int)) := fun W e => (bd.keep e (by simp)).cell rfl
 have g5 : ∀ W, Ext wd W → W.cell? ⟨w.heap.size, 0 + 5, none⟩ = some (.int .i64 (s.most : Int)) := fun W e => (bd.keep e (by simp)).cell rfl
 have g6 : ∀ W, Ext wd W → W.cell? ⟨w.heap.size, 0 + 6, none⟩ = some (.int .i64 (s.val : Int)) := fun W e => (bd.keep e (by simp)).cell rfl
 have g7 : ∀ W, Ext wd W → W.cell? ⟨w.heap.size, 0 + 7, none⟩ = some (.int .i64 (s.bound : Int)) := fun W e => (bd.keep e (by simp)).cell rfl
 ((apply D_R rfl rfl; (intro W hW; refine AP rfl ?_; exact AE ⟨rfl, rfl, rfl⟩)) <;> (apply D_R rfl rfl; (intro W hW; refine AJ rfl ?_; exact AE ⟨rfl, rfl, rfl⟩)) <;> (apply D_R rfl rfl; (intro W hW; refine AD rfl ?_; exact AE ⟨rfl, rfl, rfl⟩)) <;> (apply D_R rfl rfl; (intro W hW; refine AG rfl (fb W hW) ?_; exact AE ⟨rfl, rfl, rfl⟩)) <;> (refine D_geq rfl rfl rfl rfl (fun hc => ?_) (fun hc => ?_) <;> try omega) <;> (apply D_R rfl rfl; (intro W hW; refine AC rfl ?_; exact AE ⟨rfl, rfl, rfl⟩)) <;> (apply D_R rfl rfl; (intro W hW; (refine AF rfl ?_; refine AP rfl ?_); exact AE ⟨rfl, rfl, rfl⟩)) <;> (apply D_R rfl rfl; (intro W hW; (refine AF rfl ?_; refine AJ rfl ?_); exact AE ⟨rfl, rfl, rfl⟩)) <;> (apply D_R rfl rfl; (intro W hW; (refine AF rfl ?_; refine AD rfl ?_); exact AE ⟨rfl, rfl, rfl⟩)) <;> (apply D_R rfl rfl; (intro W hW; (refine AF rfl ?_; refine AG rfl (fb W hW) ?_); exact AE ⟨rfl, rfl, rfl⟩)) <;> (apply D_R rfl rfl; (intro W hW; (refine AF rfl ?_; refine AD rfl ?_); exact AE ⟨rfl, rfl, rfl⟩)) <;> (apply D_R rfl rfl; (intro W hW; (refine AF rfl ?_; refine AG rfl (g6 W hW) ?_); exact AE ⟨rfl, rfl, rfl⟩)) <;> (refine D_leq rfl rfl rfl rfl (fun hc => ?_) (fun hc => ?_) <;> try omega) <;> (apply D_R rfl rfl; (intro W hW; (refine AN rfl ?_; refine AC rfl ?_); exact AE ⟨rfl, rfl, rfl⟩)))
 refine D_E rfl ?_
 refine AZ (Bh wd true) rfl ?_ ?_
 rotate_left
 ·rintro ch w2 ⟨_, hb, _⟩; cases hb
 rintro v w2 ⟨rfl, hb, rfl⟩
 refine AE ⟨Ext w2, fun _ e => e, Ext.refl _, ?_⟩
 refine A0 ?_
 repeat' first | refine nx rfl ?_ | fail
 replace k1 := k1.trans kd
 clear fa fb fc g4 g5 g6 g7 kd ed b1
 have b1 := bd
 clear bd
 by_cases q5 : 0 ≤ f.bound
 case neg =>
  refine Bj (.read 0 (.read 1 (.read 2 (.read 3 (.read 4 (.read 5 (.read 6 (.read 7 (.read 8 (.read 9 (.read 10 (.read 11 (.read 12 (.read 13 (.alt 14 .done .stop))))))))))))))) A6 (by kernel_rfl) (by repeat (first | exact BI | refine A9 ?_)) (fun wd kd ed => ⟨Ext wd, ?_, ?_⟩)
  ·exact Ext.refl _
  have bd := b1.keep kd (by simp)
  have fa : ∀ W, Ext wd W → W.cell? ⟨b, o + 4, none⟩ = some (.slice a f.args.length c) := fun W e => ((k1.trans kd).trans e).cell (hcl 4 _ rfl) (by simp)
  have fb : ∀ W, Ext wd W → W.cell? ⟨b, o + 2, none⟩ = some (.int .i64 f.val) := fun W e => ((k1.trans kd).trans e).cell (hcl 2 _ rfl) (by simp)
  have fc : ∀ W, Ext wd W → W.cell? ⟨b, o + 3, none⟩ = some (.int .i64 f.bound) := fun W e => ((k1.trans kd).trans e).cell (hcl 3 _ rfl) (by simp)
  have g4 : ∀ W, Ext wd W → W.cell? ⟨w.heap.size, 0 + 4, none⟩ = some (.int .i64 (s.least : Int)) := fun W e => (bd.keep e (by simp)).cell rfl
  have g5 : ∀ W, Ext wd W → W.cell? ⟨w.heap.size, 0 + 5, none⟩ = some (.int .i64 (s.most : Int)) := fun W e => (bd.keep e (by simp)).cell rfl
  have g6 : ∀ W, Ext wd W → W.cell? ⟨w.heap.size, 0 + 6, none⟩ = some (.int .i64 (s.val : Int)) := fun W e => (bd.keep e (by simp)).cell rfl
  have g7 : ∀ W, Ext wd W → W.cell? ⟨w.heap.size, 0 + 7, none⟩ = some (.int .i64 (s.bound : Int)) := fun W e => (bd.keep e (by simp)).cell rfl
  ((apply D_R rfl rfl; (intro W hW; refine AP rfl ?_; exact AE ⟨rfl, rfl, rfl⟩)) <;> (apply D_R rfl rfl; (intro W hW; refine AJ rfl ?_; exact AE ⟨rfl, rfl, rfl⟩)) <;> (apply D_R rfl rfl; (intro W hW; refine AD rfl ?_; exact AE ⟨rfl, rfl, rfl⟩)) <;> (apply D_R rfl rfl; (intro W hW; refine AG rfl (fc W hW) ?_; exact AE ⟨rfl, rfl, rfl⟩)) <;> (refine D_geq rfl rfl rfl rfl (fun hc => ?_) (fun hc => ?_) <;> try omega) <;> (apply D_R rfl rfl; (intro W hW; refine AC rfl ?_; exact AE ⟨rfl, rfl, rfl⟩)) <;> refine Ab rfl rfl rfl rfl (Ab rfl rfl rfl rfl (Ab rfl rfl rfl rfl (Ab rfl rfl rfl rfl (Ab rfl rfl rfl rfl (Ab rfl rfl rfl rfl (Ab rfl rfl rfl rfl ?_)))))) <;> (apply D_R rfl rfl; (intro W hW; (refine AQ rfl ?_; refine AC rfl ?_); exact AE ⟨rfl, rfl, rfl⟩)))
  refine D_E rfl ?_
  refine AZ (Bh wd false) rfl ?_ ?_
  ·rintro v w2 ⟨_, hb, _⟩; cases hb
  rintro ch w2 ⟨rfl, hb, rfl⟩
  repeat' first | refine nx rfl ?_ | fail
  exact AY ⟨rfl, k1.trans kd, by simp [nodeC, q5]⟩
 by_cases q6 : f.bound ≤ (s.bound : Int)
 case neg =>
  refine Bj (.read 0 (.read 1 (.read 2 (.read 3 (.read 4 (.read 5 (.read 6 (.read 7 (.read 8 (.read 9 (.read 10 (.read 11 (.read 12 (.read 13 (.alt 14 .done .stop))))))))))))))) A6 (by kernel_rfl) (by repeat (first | exact BI | refine A9 ?_)) (fun wd kd ed => ⟨Ext wd, ?_, ?_⟩)
  ·exact Ext.refl _
  have bd := b1.keep kd (by simp)
  have fa : ∀ W, Ext wd W → W.cell? ⟨b, o + 4, none⟩ = some (.slice a f.args.length c) := fun W e => ((k1.trans kd).trans e).cell (hcl 4 _ rfl) (by simp)
  have fb : ∀ W, Ext wd W → W.cell? ⟨b, o + 2, none⟩ = some (.int .i64 f.val) := fun W e => ((k1.trans kd).trans e).cell (hcl 2 _ rfl) (by simp)
  have fc : ∀ W, Ext wd W → W.cell? ⟨b, o + 3, none⟩ = some (.int .i64 f.bound) := fun W e => ((k1.trans kd).trans e).cell (hcl 3 _ rfl) (by simp)
  have g4 : ∀ W, Ext wd W → W.cell? ⟨w.heap.size, 0 + 4, none⟩ = some (.int .i64 (s.least : Int)) := fun W e => (bd.keep e (by simp)).cell rfl
  have g5 : ∀ W, Ext wd W → W.cell? ⟨w.heap.size, 0 + 5, none⟩ = some (.int .i64 (s.most : Int)) := fun W e => (bd.keep e (by simp)).cell rfl
  have g6 : ∀ W, Ext wd W → W.cell? ⟨w.heap.size, 0 + 6, none⟩ = some (.int .i64 (s.val : Int)) := fun W e => (bd.keep e (by simp)).cell rfl
  have g7 : ∀ W, Ext wd W → W.cell? ⟨w.heap.size, 0 + 7, none⟩ = some (.int .i64 (s.bound : Int)) := fun W e => (bd.keep e (by simp)).cell rfl
  ((apply D_R rfl rfl; (intro W hW; refine AP rfl ?_; exact AE ⟨rfl, rfl, rfl⟩)) <;> (apply D_R rfl rfl; (intro W hW; refine AJ rfl ?_; exact AE ⟨rfl, rfl, rfl⟩)) <;> (apply D_R rfl rfl; (intro W hW; refine AD rfl ?_; exact AE ⟨rfl, rfl, rfl⟩)) <;> (apply D_R rfl rfl; (intro W hW; refine AG rfl (fc W hW) ?_; exact AE ⟨rfl, rfl, rfl⟩)) <;> (refine D_geq rfl rfl rfl rfl (fun hc => ?_) (fun hc => ?_) <;> try omega) <;> (apply D_R rfl rfl; (intro W hW; refine AC rfl ?_; exact AE ⟨rfl, rfl, rfl⟩)) <;> (apply D_R rfl rfl; (intro W hW; (refine AF rfl ?_; refine AP rfl ?_); exact AE ⟨rfl, rfl, rfl⟩)) <;> (apply D_R rfl rfl; (intro W hW; (refine AF rfl ?_; refine AJ rfl ?_); exact AE ⟨rfl, rfl, rfl⟩)) <;> (apply D_R rfl rfl; (intro W hW; (refine AF rfl ?_; refine AD rfl ?_); exact AE ⟨rfl, rfl, rfl⟩)) <;> (apply D_R rfl rfl; (intro W hW; (refine AF rfl ?_; refine AG rfl (fc W hW) ?_); exact AE ⟨rfl, rfl, rfl⟩)) <;> (apply D_R rfl rfl; (intro W hW; (refine AF rfl ?_; refine AD rfl ?_); exact AE ⟨rfl, rfl, rfl⟩)) <;> (apply D_R rfl rfl; (intro W hW; (refine AF rfl ?_; refine AG rfl (g7 W hW) ?_); exact AE ⟨rfl, rfl, rfl⟩)) <;> (refine D_leq rfl rfl rfl rfl (fun hc => ?_) (fun hc => ?_) <;> try omega) <;> (apply D_R rfl rfl; (intro W hW; (refine AN rfl ?_; refine AC rfl ?_); exact AE ⟨rfl, rfl, rfl⟩)))
  refine D_E rfl ?_
  refine AZ (Bh wd false) rfl ?_ ?_
  ·rintro v w2 ⟨_, hb, _⟩; cases hb
  rintro ch w2 ⟨rfl, hb, rfl⟩
  repeat' first | refine nx rfl ?_ | fail
  exact AY ⟨rfl, k1.trans kd, by simp [nodeC, q6]⟩
 refine Bj (.read 0 (.read 1 (.read 2 (.read 3 (.read 4 (.read 5 (.read 6 (.read 7 (.read 8 (.read 9 (.read 10 (.read 11 (.read 12 (.read 13 (.alt 14 .done .stop))))))))))))))) A6 (by kernel_rfl) (by repeat (first | exact BI | refine A9 ?_)) (fun wd kd ed => ⟨Ext wd, ?_, ?_⟩)
 ·exact Ext.refl _
 have bd := b1.keep kd (by simp)
 have fa : ∀ W, Ext wd W → W.cell? ⟨b, o + 4, none⟩ = some (.slice a f.args.length c) := fun W e => ((k1.trans kd).trans e).cell (hcl 4 _ rfl) (by simp)
 have fb : ∀ W, Ext wd W → W.cell? ⟨b, o + 2, none⟩ = some (.int .i64 f.val) := fun W e => ((k1.trans kd).trans e).cell (hcl 2 _ rfl) (by simp)
 have fc : ∀ W, Ext wd W → W.cell? ⟨b, o + 3, none⟩ = some (.int .i64 f.bound) := fun W e => ((k1.trans kd).trans e).cell (hcl 3 _ rfl) (by simp)
 have g4 : ∀ W, Ext wd W → W.cell? ⟨w.heap.size, 0 + 4, none⟩ = some (.int .i64 (s.least : Int)) := fun W e => (bd.keep e (by simp)).cell rfl
 have g5 : ∀ W, Ext wd W → W.cell? ⟨w.heap.size, 0 + 5, none⟩ = some (.int .i64 (s.most : Int)) := fun W e => (bd.keep e (by simp)).cell rfl
 have g6 : ∀ W, Ext wd W → W.cell? ⟨w.heap.size, 0 + 6, none⟩ = some (.int .i64 (s.val : Int)) := fun W e => (bd.keep e (by simp)).cell rfl
 have g7 : ∀ W, Ext wd W → W.cell? ⟨w.heap.size, 0 + 7, none⟩ = some (.int .i64 (s.bound : Int)) := fun W e => (bd.keep e (by simp)).cell rfl
 ((apply D_R rfl rfl; (intro W hW; refine AP rfl ?_; exact AE ⟨rfl, rfl, rfl⟩)) <;> (apply D_R rfl rfl; (intro W hW; refine AJ rfl ?_; exact AE ⟨rfl, rfl, rfl⟩)) <;> (apply D_R rfl rfl; (intro W hW; refine AD rfl ?_; exact AE ⟨rfl, rfl, rfl⟩)) <;> (apply D_R rfl rfl; (intro W hW; refine AG rfl (fc W hW) ?_; exact AE ⟨rfl, rfl, rfl⟩)) <;> (refine D_geq rfl rfl rfl rfl (fun hc => ?_) (fun hc => ?_) <;> try omega) <;> (apply D_R rfl rfl; (intro W hW; refine AC rfl ?_; exact AE ⟨rfl, rfl, rfl⟩)) <;> (apply D_R rfl rfl; (intro W hW; (refine AF rfl ?_; refine AP rfl ?_); exact AE ⟨rfl, rfl, rfl⟩)) <;> (apply D_R rfl rfl; (intro W hW; (refine AF rfl ?_; refine AJ rfl ?_); exact AE ⟨rfl, rfl, rfl⟩)) <;> (apply D_R rfl rfl; (intro W hW; (refine AF rfl ?_; refine AD rfl ?_); exact AE ⟨rfl, rfl, rfl⟩)) <;> (apply D_R rfl rfl; (intro W hW; (refine AF rfl ?_; refine AG rfl (fc W hW) ?_); exact AE ⟨rfl, rfl, rfl⟩)) <;> (apply D_R rfl rfl; (intro W hW; (refine AF rfl ?_; refine AD rfl ?_); exact AE ⟨rfl, rfl, rfl⟩)) <;> (apply D_R rfl rfl; (intro W hW; (refine AF rfl ?_; refine AG rfl (g7 W hW) ?_); exact AE ⟨rfl, rfl, rfl⟩)) <;> (refine D_leq rfl rfl rfl rfl (fun hc => ?_) (fun hc => ?_) <;> try omega) <;> (apply D_R rfl rfl; (intro W hW; (refine AN rfl ?_; refine AC rfl ?_); exact AE ⟨rfl, rfl, rfl⟩)))
 refine D_E rfl ?_
 refine AZ (Bh wd true) rfl ?_ ?_
 rotate_left
 ·rintro ch w2 ⟨_, hb, _⟩; cases hb
 rintro v w2 ⟨rfl, hb, rfl⟩
 refine AE ⟨Ext w2, fun _ e => e, Ext.refl _, ?_⟩
 refine A0 ?_
 repeat' first | refine nx rfl ?_ | fail
 replace k1 := k1.trans kd
 clear fa fb fc g4 g5 g6 g7 kd ed b1
 have b1 := bd
 clear bd
 have fo := k1.cell (hcl 0 _ rfl) (by simp)
 have fn := k1.cell (hcl 1 _ rfl) (by simp)
 by_cases q7 : f.op = 3
 ·(refine AA (AP rfl (AJ rfl (AD rfl ?_))) <;> refine AG rfl (by assumption) ?_ <;> (refine AH rfl rfl (fun hc => ?_) (fun hc => ?_) <;> try omega) <;> refine AC rfl (AK rfl (AK rfl (AK rfl (AK rfl (AK rfl (AN rfl (AC rfl ?_))))))))
  refine AZ (Bh _ true) rfl ?_ ?_
  rotate_left
  ·rintro ch w2 ⟨_, hb, _⟩; cases hb
  rintro v w2 ⟨rfl, hb, rfl⟩
  repeat' first | refine nx rfl ?_ | fail
  exact Au rfl ⟨rfl, k1, by simp [nodeC, q1, q2, q3, q4, q5, q6, q7]⟩
 by_cases q8 : f.name = []
 ·(refine AA (AP rfl (AJ rfl (AD rfl ?_))) <;> refine AG rfl (by assumption) ?_ <;> (refine AH rfl rfl (fun hc => ?_) (fun hc => ?_) <;> try omega) <;> refine AC rfl (AF rfl (AP rfl (AF rfl (AJ rfl (AF rfl (AD rfl (AF rfl ?_))))))) <;> refine AG rfl (by assumption) ?_ <;> (refine AF rfl ?_; refine Bu rfl rfl (fun hc => ?_) (fun hc => ?_)) <;> refine AQ rfl (AC rfl ?_))
  case refine_2 => exact absurd q8 (by assumption)
  refine AZ (Bh _ true) rfl ?_ ?_
  rotate_left
  ·rintro ch w2 ⟨_, hb, _⟩; cases hb
  rintro v w2 ⟨rfl, hb, rfl⟩
  repeat' first | refine nx rfl ?_ | fail
  exact Au rfl ⟨rfl, k1, by simp [nodeC, q1, q2, q3, q4, q5, q6, q8]⟩
 ·(refine AA (AP rfl (AJ rfl (AD rfl ?_))) <;> refine AG rfl (by assumption) ?_ <;> (refine AH rfl rfl (fun hc => ?_) (fun hc => ?_) <;> try omega) <;> refine AC rfl (AF rfl (AP rfl (AF rfl (AJ rfl (AF rfl (AD rfl (AF rfl ?_))))))) <;> refine AG rfl (by assumption) ?_ <;> (refine AF rfl ?_; refine Bu rfl rfl (fun hc => ?_) (fun hc => ?_)) <;> refine AQ rfl (AC rfl ?_))
  case refine_1 => exact absurd (by assumption) q8
  refine AZ (Bh _ false) rfl ?_ ?_
  ·rintro v w2 ⟨_, hb, _⟩; cases hb
  rintro ch w2 ⟨rfl, hb, rfl⟩
  repeat' first | refine nx rfl ?_ | fail
  exact AY ⟨rfl, k1, by simp [nodeC, q7, q8]⟩
end Go.Proofs.YtfcgdbmoncnibaaGreatDoor
namespace Go.Proofs.YtfcgdbmoncnibaaGreatDoor
open Go.RowKit
set_option linter.unusedVariables false
theorem CB {n : Int} (h : n ≤ 9999) : (numT n).length ≤ 4 := digs_len (by omega)
theorem numB_of {n : Int} (h0 : 0 ≤ n) (h1 : n ≤ 9999) : numB n = true := by simp [numB, h0, h1]
theorem signOf_ok (w : World) (s : Sty) (b o : Nat) (f : Fml) (av : Value) (hcl : Cells w b o (fcC f av)) (hs : BS f.op = some s) (hok : nodeC s f = true) (hG : GP w) :
  FnP Tryz.prog 124 [BR s, .pointer (some ⟨b, o, none⟩)] w (fun v w' => v = AM (sgT f.op f.name f.val f.bound) ∧ Ext w w' ∧ (f.op = 3 → BW f.name = true)) (fun ch w' => ch = unp ∧ Ext w w' ∧ f.op = 3 ∧ BW f.name = false) := by
 have hsg : s.sign.length ≤ 5 := by
  rcases op_cases hs with h | h | h | h | h | h | h | h | h | h | h | h | h | h | h | h | h | h | h <;> rw [h] at hs <;> simp [BS, styL, List.lookup] at hs <;> subst hs <;> decide
 have esd : CO f.op = s := by unfold CO; rw [hs]; rfl
 simp only [nodeC, Bool.and_eq_true, decide_eq_true_eq] at hok
 obtain ⟨⟨⟨_, h1, h2⟩, h3, h4⟩, _⟩ := hok
 refine Ap Tryz.func124 rfl Tryz.ntmps124 (Nat.le_of_ble_eq_true rfl) (by kernel_rfl) ?_
 repeat' first | refine nx rfl ?_ | fail
 (refine AA ?_; refine BL (L := By s) rfl (fun w1 n1 => ?_))
 have b1 := n1.blk
 have k1 := n1.keep
 have fo := k1.cell (hcl 0 _ rfl) (by simp)
 ((refine AB ?_; refine AT rfl ?_))
 repeat' first | refine nx rfl ?_ | fail
 (refine AA (AP rfl (AJ rfl (AD rfl ?_))) <;> refine AG rfl (by assumption) ?_)
 repeat' first | refine nx rfl ?_ | fail
 by_cases o3 : f.op = 3
 ·have hs3 := hs
  rw [o3] at hs3
  simp [BS, styL, List.lookup] at hs3
  have hu : s.usual = 1 := by rw [← hs3]
  have hv : s.val = 9999 := by rw [← hs3]
  have hg : s.sign = [61] := by rw [← hs3]
  (refine AA ?_ <;> (refine AH rfl rfl (fun hc => ?_) (fun hc => ?_) <;> try omega) <;> refine AB (AC rfl ?_))
  repeat' first | refine nx rfl ?_ | fail
  by_cases hv1 : f.val = 1
  ·refine Bj (.read 0 (.read 1 (.read 2 (.read 3 (.read 4 (.read 5 (.read 6 .done))))))) A6 (by kernel_rfl) (by repeat (first | exact BI | refine A9 ?_ | refine Bg ?_)) (fun wd kd ed => ⟨Ext wd, ?_, ?_⟩)
   ·exact Ext.refl _
   have bd := b1.keep kd (by simp)
   have fn : ∀ W, Ext wd W → W.cell? ⟨b, o + 1, none⟩ = some (AM f.name) := fun W e => ((k1.trans kd).trans e).cell (hcl 1 _ rfl) (by simp)
   have fv : ∀ W, Ext wd W → W.cell? ⟨b, o + 2, none⟩ = some (.int .i64 f.val) := fun W e => ((k1.trans kd).trans e).cell (hcl 2 _ rfl) (by simp)
   have fb : ∀ W, Ext wd W → W.cell? ⟨b, o + 3, none⟩ = some (.int .i64 f.bound) := fun W e => ((k1.trans kd).trans e).cell (hcl 3 _ rfl) (by simp)
   have g0 : ∀ W, Ext wd W → W.cell? ⟨w.heap.size, 0 + 0, none⟩ = some (AM s.sign) := fun W e => (bd.keep e (by simp)).cell rfl
   have g8 : ∀ W, Ext wd W → W.cell? ⟨w.heap.size, 0 + 8, none⟩ = some (.int .i64 (s.usual : Int)) := fun W e => (bd.keep e (by simp)).cell rfl
   ((apply D_R rfl rfl; (intro W hW; refine AP rfl ?_; exact AE ⟨rfl, rfl, rfl⟩)) <;> (apply D_R rfl rfl; (intro W hW; refine AJ rfl ?_; exact AE ⟨rfl, rfl, rfl⟩)) <;> (apply D_R rfl rfl; (intro W hW; refine AD rfl ?_; exact AE ⟨rfl, rfl, rfl⟩)) <;> (apply D_R rfl rfl; (intro W hW; refine AG rfl (fv W hW) ?_; exact AE ⟨rfl, rfl, rfl⟩)) <;> (apply D_R rfl rfl; (intro W hW; refine AD rfl ?_; exact AE ⟨rfl, rfl, rfl⟩)) <;> (apply D_R rfl rfl; (intro W hW; refine AG rfl (g8 W hW) ?_; exact AE ⟨rfl, rfl, rfl⟩)) <;> (refine D_eql rfl rfl rfl rfl (fun hc => ?_) (fun hc => ?_) <;> try omega) <;> refine A0 ?_)
   repeat' first | refine nx rfl ?_ | fail
   have fn1 := fn _ (Ext.refl _)
   (refine AA (AP rfl (AJ rfl (AD rfl ?_))) <;> refine AG rfl (by assumption) ?_)
   refine AZ (wname_ok _ f.name (hG.gk.ext (k1.trans kd))) rfl ?_ ?_
   rotate_left
   ·rintro ch w2 ⟨rfl, hb, rfl⟩
    repeat' first | refine nx rfl ?_ | fail
    exact AY ⟨rfl, k1.trans kd, o3, hb⟩
   rintro v w2 ⟨rfl, hb, rfl⟩
   ((refine AB ?_; refine AT rfl ?_))
   repeat' first | refine nx rfl ?_ | fail
   have e : sgT f.op f.name f.val f.bound = f.name := by simp [sgT, o3, hv1]
   exact AL rfl ⟨by rw [e]; rfl, k1.trans kd, fun _ => hb⟩
  ·refine Bj (.read 0 (.read 1 (.read 2 (.read 3 (.read 4 (.read 5 (.read 6 .done))))))) A6 (by kernel_rfl) (by repeat (first | exact BI | refine A9 ?_ | refine Bg ?_)) (fun wd kd ed => ⟨Ext wd, ?_, ?_⟩)
   ·exact Ext.refl _
   have bd := b1.keep kd (by simp)
   have fn : ∀ W, Ext wd W → W.cell? ⟨b, o + 1, none⟩ = some (AM f.name) := fun W e => ((k1.trans kd).trans e).cell (hcl 1 _ rfl) (by simp)
   have fv : ∀ W, Ext wd W → W.cell? ⟨b, o + 2, none⟩ = some (.int .i64 f.val) := fun W e => ((k1.trans kd).trans e).cell (hcl 2 _ rfl) (by simp)
   have fb : ∀ W, Ext wd W → W.cell? ⟨b, o + 3, none⟩ = some (.int .i64 f.bound) := fun W e => ((k1.trans kd).trans e).cell (hcl 3 _ rfl) (by simp)
   have g0 : ∀ W, Ext wd W → W.cell? ⟨w.heap.size, 0 + 0, none⟩ = some (AM s.sign) := fun W e => (bd.keep e (by simp)).cell rfl
   have g8 : ∀ W, Ext wd W → W.cell? ⟨w.heap.size, 0 + 8, none⟩ = some (.int .i64 (s.usual : Int)) := fun W e => (bd.keep e (by simp)).cell rfl
   ((apply D_R rfl rfl; (intro W hW; refine AP rfl ?_; exact AE ⟨rfl, rfl, rfl⟩)) <;> (apply D_R rfl rfl; (intro W hW; refine AJ rfl ?_; exact AE ⟨rfl, rfl, rfl⟩)) <;> (apply D_R rfl rfl; (intro W hW; refine AD rfl ?_; exact AE ⟨rfl, rfl, rfl⟩)) <;> (apply D_R rfl rfl; (intro W hW; refine AG rfl (fv W hW) ?_; exact AE ⟨rfl, rfl, rfl⟩)) <;> (apply D_R rfl rfl; (intro W hW; refine AD rfl ?_; exact AE ⟨rfl, rfl, rfl⟩)) <;> (apply D_R rfl rfl; (intro W hW; refine AG rfl (g8 W hW) ?_; exact AE ⟨rfl, rfl, rfl⟩)) <;> (refine D_eql rfl rfl rfl rfl (fun hc => ?_) (fun hc => ?_) <;> try omega) <;> refine A0 ?_)
   repeat' first | refine nx rfl ?_ | refine nf rfl ?_
   replace k1 := k1.trans kd
   replace b1 := bd
   clear fn fv fb g0 g8 bd kd ed
   refine Bj (.read 0 (.read 1 (.read 2 (.read 3 (.read 5 (.read 6 (.read 8 (.read 9 (.read 10 (.read 11 (.alt 4 (.read 7 (.alt 12 (.read 13 (.read 14 .done)) .stop)) .stop))))))))))) A6 (by kernel_rfl) (by repeat (first | exact BI | refine A9 ?_ | refine Bg ?_)) (fun wd kd ed => ⟨Ext wd, ?_, ?_⟩)
   ·exact Ext.refl _
   have bd := b1.keep kd (by simp)
   have fn : ∀ W, Ext wd W → W.cell? ⟨b, o + 1, none⟩ = some (AM f.name) := fun W e => ((k1.trans kd).trans e).cell (hcl 1 _ rfl) (by simp)
   have fv : ∀ W, Ext wd W → W.cell? ⟨b, o + 2, none⟩ = some (.int .i64 f.val) := fun W e => ((k1.trans kd).trans e).cell (hcl 2 _ rfl) (by simp)
   have fb : ∀ W, Ext wd W → W.cell? ⟨b, o + 3, none⟩ = some (.int .i64 f.bound) := fun W e => ((k1.trans kd).trans e).cell (hcl 3 _ rfl) (by simp)
   have g0 : ∀ W, Ext wd W → W.cell? ⟨w.heap.size, 0 + 0, none⟩ = some (AM s.sign) := fun W e => (bd.keep e (by simp)).cell rfl
   have g8 : ∀ W, Ext wd W → W.cell? ⟨w.heap.size, 0 + 8, none⟩ = some (.int .i64 (s.usual : Int)) := fun W e => (bd.keep e (by simp)).cell rfl
   ((apply D_R rfl rfl; (intro W hW; refine AP rfl ?_; exact AE ⟨rfl, rfl, rfl⟩)) <;> (apply D_R rfl rfl; (intro W hW; refine AJ rfl ?_; exact AE ⟨rfl, rfl, rfl⟩)) <;> (apply D_R rfl rfl; (intro W hW; refine AD rfl ?_; exact AE ⟨rfl, rfl, rfl⟩)) <;> (apply D_R rfl rfl; (intro W hW; refine AG rfl (fn W hW) ?_; exact AE ⟨rfl, rfl, rfl⟩)) <;> (apply D_R rfl rfl; (intro W hW; refine AD rfl ?_; exact AE ⟨rfl, rfl, rfl⟩)) <;> (apply D_R rfl rfl; (intro W hW; refine AG rfl (g0 W hW) ?_; exact AE ⟨rfl, rfl, rfl⟩)) <;> (apply D_R rfl rfl; (intro W hW; refine AP rfl ?_; exact AE ⟨rfl, rfl, rfl⟩)) <;> (apply D_R rfl rfl; (intro W hW; refine AJ rfl ?_; exact AE ⟨rfl, rfl, rfl⟩)) <;> (apply D_R rfl rfl; (intro W hW; refine AD rfl ?_; exact AE ⟨rfl, rfl, rfl⟩)) <;> (apply D_R rfl rfl; (intro W hW; refine AG rfl (fv W hW) ?_; exact AE ⟨rfl, rfl, rfl⟩)))
   refine D_E rfl ?_
   refine AZ (wname_ok wd f.name (hG.gk.ext (k1.trans kd))) rfl ?_ ?_
   rotate_left
   ·rintro ch w2 ⟨rfl, hb, rfl⟩
    repeat' first | refine nx rfl ?_ | fail
    exact AY ⟨rfl, k1.trans kd, o3, hb⟩
   rintro v w2 ⟨rfl, hb, rfl⟩
   have hnl := (BB hb).2.1
   refine AE ⟨Ext w2, fun _ e => e, Ext.refl _, ?_⟩
   (apply D_R rfl rfl; (intro W hW; (refine Ar rfl rfl (by (try simp); omega) ?_); exact AE ⟨rfl, rfl, rfl⟩))
   refine D_E rfl ?_
   refine AZ (wnumber_ok w2 f.val (hG.ext (k1.trans kd))) rfl ?_ ?_
   rotate_left
   ·rintro ch w3 ⟨rfl, hb2, rfl⟩
    rw [numB_of h1 (by omega)] at hb2; cases hb2
   rintro v w3 ⟨rfl, _, k3⟩
   have hnn := CB (n := f.val) (by omega)
   refine AE ⟨Ext w3, fun _ e => k3.trans e, Ext.refl _, ?_⟩
   (apply D_R rfl rfl; (intro W hW; (refine Ar rfl rfl (by (try simp); omega) ?_); exact AE ⟨rfl, rfl, rfl⟩))
   ((apply D_R rfl rfl; (intro W hW; (refine AB ?_; refine AT rfl ?_); exact AE ⟨rfl, rfl, rfl⟩)) <;> refine A0 ?_)
   repeat' first | refine nx rfl ?_ | fail
   have e : sgT f.op f.name f.val f.bound = f.name ++ s.sign ++ numT f.val := by simp [sgT, o3, hv1, hg]
   exact AL rfl ⟨by rw [e]; rfl, (k1.trans kd).trans k3, fun _ => hb⟩
 by_cases o13 : f.op = 13 ∨ f.op = 14
 ·have hbd : s.bound = 9999 := by
   rcases o13 with h | h <;> rw [h] at hs <;> simp [BS, styL, List.lookup] at hs <;> rw [← hs]
  have fin8 : sgT f.op f.name f.val f.bound = s.sign ++ numT f.bound ++ [93, 32] := by simp [sgT, o3, o13, esd]
  (refine AA ?_ <;> (refine AH rfl rfl (fun hc => ?_) (fun hc => ?_) <;> try omega) <;> refine AB (AC rfl ?_))
  repeat' first | refine nx rfl ?_ | refine nf rfl ?_
  rcases o13 with h13 | h14
  ·(refine AA ?_ <;> (refine AH rfl rfl (fun hc => ?_) (fun hc => ?_) <;> try omega) <;> refine AB (AC rfl ?_))
   repeat' first | refine nx rfl ?_ | fail
   refine Bj (.read 0 (.read 1 (.read 2 (.read 3 (.read 4 (.read 5 (.alt 6 (.read 7 (.read 8 (.read 9 .done))) .stop))))))) A6 (by kernel_rfl) (by repeat (first | exact BI | refine A9 ?_ | refine Bg ?_)) (fun wd kd ed => ⟨Ext wd, ?_, ?_⟩)
   ·exact Ext.refl _
   have bd := b1.keep kd (by simp)
   have fn : ∀ W, Ext wd W → W.cell? ⟨b, o + 1, none⟩ = some (AM f.name) := fun W e => ((k1.trans kd).trans e).cell (hcl 1 _ rfl) (by simp)
   have fv : ∀ W, Ext wd W → W.cell? ⟨b, o + 2, none⟩ = some (.int .i64 f.val) := fun W e => ((k1.trans kd).trans e).cell (hcl 2 _ rfl) (by simp)
   have fb : ∀ W, Ext wd W → W.cell? ⟨b, o + 3, none⟩ = some (.int .i64 f.bound) := fun W e => ((k1.trans kd).trans e).cell (hcl 3 _ rfl) (by simp)
   have g0 : ∀ W, Ext wd W → W.cell? ⟨w.heap.size, 0 + 0, none⟩ = some (AM s.sign) := fun W e => (bd.keep e (by simp)).cell rfl
   have g8 : ∀ W, Ext wd W → W.cell? ⟨w.heap.size, 0 + 8, none⟩ = some (.int .i64 (s.usual : Int)) := fun W e => (bd.keep e (by simp)).cell rfl
   ((apply D_R rfl rfl; (intro W hW; refine AD rfl ?_; exact AE ⟨rfl, rfl, rfl⟩)) <;> (apply D_R rfl rfl; (intro W hW; refine AG rfl (g0 W hW) ?_; exact AE ⟨rfl, rfl, rfl⟩)) <;> (apply D_R rfl rfl; (intro W hW; refine AP rfl ?_; exact AE ⟨rfl, rfl, rfl⟩)) <;> (apply D_R rfl rfl; (intro W hW; refine AJ rfl ?_; exact AE ⟨rfl, rfl, rfl⟩)) <;> (apply D_R rfl rfl; (intro W hW; refine AD rfl ?_; exact AE ⟨rfl, rfl, rfl⟩)) <;> (apply D_R rfl rfl; (intro W hW; refine AG rfl (fb W hW) ?_; exact AE ⟨rfl, rfl, rfl⟩)))
   refine D_E rfl ?_
   refine AZ (wnumber_ok wd f.bound (hG.ext (k1.trans kd))) rfl ?_ ?_
   rotate_left
   ·rintro ch w3 ⟨rfl, hb2, rfl⟩
    rw [numB_of h3 (by omega)] at hb2; cases hb2
   rintro v w3 ⟨rfl, _, k3⟩
   have hnn := CB (n := f.bound) (by omega)
   refine AE ⟨Ext w3, fun _ e => k3.trans e, Ext.refl _, ?_⟩
   (apply D_R rfl rfl; (intro W hW; (refine Ar rfl rfl (by (try simp); omega) ?_); exact AE ⟨rfl, rfl, rfl⟩))
   (apply D_R rfl rfl; (intro W hW; (refine Ar rfl rfl (by (try simp); omega) ?_); exact AE ⟨rfl, rfl, rfl⟩))
   ((apply D_R rfl rfl; (intro W hW; (refine AB ?_; refine AT rfl ?_); exact AE ⟨rfl, rfl, rfl⟩)) <;> refine A0 ?_)
   repeat' first | refine nx rfl ?_ | fail
   exact AL rfl ⟨by rw [fin8]; rfl, (k1.trans kd).trans k3, fun h => absurd h o3⟩
  ·(refine AA ?_ <;> (refine AH rfl rfl (fun hc => ?_) (fun hc => ?_) <;> try omega) <;> refine AB (AC rfl ?_))
   repeat' first | refine nx rfl ?_ | refine nf rfl ?_
   (refine AA ?_ <;> (refine AH rfl rfl (fun hc => ?_) (fun hc => ?_) <;> try omega) <;> refine AB (AC rfl ?_))
   repeat' first | refine nx rfl ?_ | fail
   refine Bj (.read 0 (.read 1 (.read 2 (.read 3 (.read 4 (.read 5 (.alt 6 (.read 7 (.read 8 (.read 9 .done))) .stop))))))) A6 (by kernel_rfl) (by repeat (first | exact BI | refine A9 ?_ | refine Bg ?_)) (fun wd kd ed => ⟨Ext wd, ?_, ?_⟩)
   ·exact Ext.refl _
   have bd := b1.keep kd (by simp)
   have fn : ∀ W, Ext wd W → W.cell? ⟨b, o + 1, none⟩ = some (AM f.name) := fun W e => ((k1.trans kd).trans e).cell (hcl 1 _ rfl) (by simp)
   have fv : ∀ W, Ext wd W → W.cell? ⟨b, o + 2, none⟩ = some (.int .i64 f.val) := fun W e => ((k1.trans kd).trans e).cell (hcl 2 _ rfl) (by simp)
   have fb : ∀ W, Ext wd W → W.cell? ⟨b, o + 3, none⟩ = some (.int .i64 f.bound) := fun W e => ((k1.trans kd).trans e).cell (hcl 3 _ rfl) (by simp)
   have g0 : ∀ W, Ext wd W → W.cell? ⟨w.heap.size, 0 + 0, none⟩ = some (AM s.sign) := fun W e => (bd.keep e (by simp)).cell rfl
   have g8 : ∀ W, Ext wd W → W.cell? ⟨w.heap.size, 0 + 8, none⟩ = some (.int .i64 (s.usual : Int)) := fun W e => (bd.keep e (by simp)).cell rfl
   ((apply D_R rfl rfl; (intro W hW; refine AD rfl ?_; exact AE ⟨rfl, rfl, rfl⟩)) <;> (apply D_R rfl rfl; (intro W hW; refine AG rfl (g0 W hW) ?_; exact AE ⟨rfl, rfl, rfl⟩)) <;> (apply D_R rfl rfl; (intro W hW; refine AP rfl ?_; exact AE ⟨rfl, rfl, rfl⟩)) <;> (apply D_R rfl rfl; (intro W hW; refine AJ rfl ?_; exact AE ⟨rfl, rfl, rfl⟩)) <;> (apply D_R rfl rfl; (intro W hW; refine AD rfl ?_; exact AE ⟨rfl, rfl, rfl⟩)) <;> (apply D_R rfl rfl; (intro W hW; refine AG rfl (fb W hW) ?_; exact AE ⟨rfl, rfl, rfl⟩)))
   refine D_E rfl ?_
   refine AZ (wnumber_ok wd f.bound (hG.ext (k1.trans kd))) rfl ?_ ?_
   rotate_left
   ·rintro ch w3 ⟨rfl, hb2, rfl⟩
    rw [numB_of h3 (by omega)] at hb2; cases hb2
   rintro v w3 ⟨rfl, _, k3⟩
   have hnn := CB (n := f.bound) (by omega)
   refine AE ⟨Ext w3, fun _ e => k3.trans e, Ext.refl _, ?_⟩
   (apply D_R rfl rfl; (intro W hW; (refine Ar rfl rfl (by (try simp); omega) ?_); exact AE ⟨rfl, rfl, rfl⟩))
   (apply D_R rfl rfl; (intro W hW; (refine Ar rfl rfl (by (try simp); omega) ?_); exact AE ⟨rfl, rfl, rfl⟩))
   ((apply D_R rfl rfl; (intro W hW; (refine AB ?_; refine AT rfl ?_); exact AE ⟨rfl, rfl, rfl⟩)) <;> refine A0 ?_)
   repeat' first | refine nx rfl ?_ | fail
   exact AL rfl ⟨by rw [fin8]; rfl, (k1.trans kd).trans k3, fun h => absurd h o3⟩
 by_cases o15 : f.op = 15
 ·have hs15 := hs
  rw [o15] at hs15
  simp [BS, styL, List.lookup] at hs15
  have hu : s.usual = 0 := by rw [← hs15]
  have hg : s.sign = [89, 32] := by rw [← hs15]
  (refine AA ?_ <;> (refine AH rfl rfl (fun hc => ?_) (fun hc => ?_) <;> try omega) <;> refine AB (AC rfl ?_))
  repeat' first | refine nx rfl ?_ | refine nf rfl ?_
  (refine AA ?_ <;> (refine AH rfl rfl (fun hc => ?_) (fun hc => ?_) <;> try omega) <;> refine AB (AC rfl ?_))
  repeat' first | refine nx rfl ?_ | refine nf rfl ?_
  (refine AA ?_ <;> (refine AH rfl rfl (fun hc => ?_) (fun hc => ?_) <;> try omega) <;> refine AB (AC rfl ?_))
  repeat' first | refine nx rfl ?_ | refine nf rfl ?_
  (refine AA ?_ <;> (refine AH rfl rfl (fun hc => ?_) (fun hc => ?_) <;> try omega) <;> refine AB (AC rfl ?_))
  repeat' first | refine nx rfl ?_ | fail
  by_cases hv0 : f.val = 0
  ·refine Bj (.read 0 (.read 1 (.read 2 (.read 3 (.read 4 (.read 5 (.read 6 .done))))))) A6 (by kernel_rfl) (by repeat (first | exact BI | refine A9 ?_ | refine Bg ?_)) (fun wd kd ed => ⟨Ext wd, ?_, ?_⟩)
   ·exact Ext.refl _
   have bd := b1.keep kd (by simp)
   have fn : ∀ W, Ext wd W → W.cell? ⟨b, o + 1, none⟩ = some (AM f.name) := fun W e => ((k1.trans kd).trans e).cell (hcl 1 _ rfl) (by simp)
   have fv : ∀ W, Ext wd W → W.cell? ⟨b, o + 2, none⟩ = some (.int .i64 f.val) := fun W e => ((k1.trans kd).trans e).cell (hcl 2 _ rfl) (by simp)
   have fb : ∀ W, Ext wd W → W.cell? ⟨b, o + 3, none⟩ = some (.int .i64 f.bound) := fun W e => ((k1.trans kd).trans e).cell (hcl 3 _ rfl) (by simp)
   have g0 : ∀ W, Ext wd W → W.cell? ⟨w.heap.size, 0 + 0, none⟩ = some (AM s.sign) := fun W e => (bd.keep e (by simp)).cell rfl
   have g8 : ∀ W, Ext wd W → W.cell? ⟨w.heap.size, 0 + 8, none⟩ = some (.int .i64 (s.usual : Int)) := fun W e => (bd.keep e (by simp)).cell rfl
   ((apply D_R rfl rfl; (intro W hW; refine AP rfl ?_; exact AE ⟨rfl, rfl, rfl⟩)) <;> (apply D_R rfl rfl; (intro W hW; refine AJ rfl ?_; exact AE ⟨rfl, rfl, rfl⟩)) <;> (apply D_R rfl rfl; (intro W hW; refine AD rfl ?_; exact AE ⟨rfl, rfl, rfl⟩)) <;> (apply D_R rfl rfl; (intro W hW; refine AG rfl (fv W hW) ?_; exact AE ⟨rfl, rfl, rfl⟩)) <;> (apply D_R rfl rfl; (intro W hW; refine AD rfl ?_; exact AE ⟨rfl, rfl, rfl⟩)) <;> (apply D_R rfl rfl; (intro W hW; refine AG rfl (g8 W hW) ?_; exact AE ⟨rfl, rfl, rfl⟩)) <;> (refine D_neq rfl rfl rfl rfl (fun hc => ?_) (fun hc => ?_) <;> try omega) <;> refine A0 ?_)
   repeat' first | refine nx rfl ?_ | refine nf rfl ?_
   have g1 := g0 _ (Ext.refl _)
   (refine AA (AD rfl ?_) <;> refine AG rfl (Blk.cell (by assumption) (by rfl)) ?_ <;> refine AB (AT rfl ?_))
   repeat' first | refine nx rfl ?_ | fail
   have e : sgT f.op f.name f.val f.bound = s.sign := by simp [sgT, o15, hv0, hg]
   exact AL rfl ⟨by rw [e]; rfl, k1.trans kd, fun h => absurd h o3⟩
  ·refine Bj (.read 0 (.read 1 (.read 2 (.read 3 (.read 4 (.read 5 (.read 6 .done))))))) A6 (by kernel_rfl) (by repeat (first | exact BI | refine A9 ?_ | refine Bg ?_)) (fun wd kd ed => ⟨Ext wd, ?_, ?_⟩)
   ·exact Ext.refl _
   have bd := b1.keep kd (by simp)
   have fn : ∀ W, Ext wd W → W.cell? ⟨b, o + 1, none⟩ = some (AM f.name) := fun W e => ((k1.trans kd).trans e).cell (hcl 1 _ rfl) (by simp)
   have fv : ∀ W, Ext wd W → W.cell? ⟨b, o + 2, none⟩ = some (.int .i64 f.val) := fun W e => ((k1.trans kd).trans e).cell (hcl 2 _ rfl) (by simp)
   have fb : ∀ W, Ext wd W → W.cell? ⟨b, o + 3, none⟩ = some (.int .i64 f.bound) := fun W e => ((k1.trans kd).trans e).cell (hcl 3 _ rfl) (by simp)
   have g0 : ∀ W, Ext wd W → W.cell? ⟨w.heap.size, 0 + 0, none⟩ = some (AM s.sign) := fun W e => (bd.keep e (by simp)).cell rfl
   have g8 : ∀ W, Ext wd W → W.cell? ⟨w.heap.size, 0 + 8, none⟩ = some (.int .i64 (s.usual : Int)) := fun W e => (bd.keep e (by simp)).cell rfl
   ((apply D_R rfl rfl; (intro W hW; refine AP rfl ?_; exact AE ⟨rfl, rfl, rfl⟩)) <;> (apply D_R rfl rfl; (intro W hW; refine AJ rfl ?_; exact AE ⟨rfl, rfl, rfl⟩)) <;> (apply D_R rfl rfl; (intro W hW; refine AD rfl ?_; exact AE ⟨rfl, rfl, rfl⟩)) <;> (apply D_R rfl rfl; (intro W hW; refine AG rfl (fv W hW) ?_; exact AE ⟨rfl, rfl, rfl⟩)) <;> (apply D_R rfl rfl; (intro W hW; refine AD rfl ?_; exact AE ⟨rfl, rfl, rfl⟩)) <;> (apply D_R rfl rfl; (intro W hW; refine AG rfl (g8 W hW) ?_; exact AE ⟨rfl, rfl, rfl⟩)) <;> (refine D_neq rfl rfl rfl rfl (fun hc => ?_) (fun hc => ?_) <;> try omega) <;> refine A0 ?_)
   repeat' first | refine nx rfl ?_ | fail
   refine AA (AB (AT rfl ?_))
   repeat' first | refine nx rfl ?_ | fail
   have e : sgT f.op f.name f.val f.bound = [90, 32] := by simp [sgT, o15, hv0]
   exact AL rfl ⟨by rw [e]; rfl, k1.trans kd, fun h => absurd h o3⟩
 by_cases o16 : f.op = 16 ∨ f.op = 17
 ·have hvl : s.val = 9999 := by
   rcases o16 with h | h <;> rw [h] at hs <;> simp [BS, styL, List.lookup] at hs <;> rw [← hs]
  (refine AA ?_ <;> (refine AH rfl rfl (fun hc => ?_) (fun hc => ?_) <;> try omega) <;> refine AB (AC rfl ?_))
  repeat' first | refine nx rfl ?_ | refine nf rfl ?_
  (refine AA ?_ <;> (refine AH rfl rfl (fun hc => ?_) (fun hc => ?_) <;> try omega) <;> refine AB (AC rfl ?_))
  repeat' first | refine nx rfl ?_ | refine nf rfl ?_
  (refine AA ?_ <;> (refine AH rfl rfl (fun hc => ?_) (fun hc => ?_) <;> try omega) <;> refine AB (AC rfl ?_))
  repeat' first | refine nx rfl ?_ | refine nf rfl ?_
  (refine AA ?_ <;> (refine AH rfl rfl (fun hc => ?_) (fun hc => ?_) <;> try omega) <;> refine AB (AC rfl ?_))
  repeat' first | refine nx rfl ?_ | refine nf rfl ?_
  rcases o16 with h16 | h17
  ·(refine AA ?_ <;> (refine AH rfl rfl (fun hc => ?_) (fun hc => ?_) <;> try omega) <;> refine AB (AC rfl ?_))
   repeat' first | refine nx rfl ?_ | fail
   by_cases hvu : f.val = (s.usual : Int)
   ·refine Bj (.read 0 (.read 1 (.read 2 (.read 3 (.read 4 (.read 5 (.read 6 .done))))))) A6 (by kernel_rfl) (by repeat (first | exact BI | refine A9 ?_ | refine Bg ?_)) (fun wd kd ed => ⟨Ext wd, ?_, ?_⟩)
    ·exact Ext.refl _
    have bd := b1.keep kd (by simp)
    have fn : ∀ W, Ext wd W → W.cell? ⟨b, o + 1, none⟩ = some (AM f.name) := fun W e => ((k1.trans kd).trans e).cell (hcl 1 _ rfl) (by simp)
    have fv : ∀ W, Ext wd W → W.cell? ⟨b, o + 2, none⟩ = some (.int .i64 f.val) := fun W e => ((k1.trans kd).trans e).cell (hcl 2 _ rfl) (by simp)
    have fb : ∀ W, Ext wd W → W.cell? ⟨b, o + 3, none⟩ = some (.int .i64 f.bound) := fun W e => ((k1.trans kd).trans e).cell (hcl 3 _ rfl) (by simp)
    have g0 : ∀ W, Ext wd W → W.cell? ⟨w.heap.size, 0 + 0, none⟩ = some (AM s.sign) := fun W e => (bd.keep e (by simp)).cell rfl
    have g8 : ∀ W, Ext wd W → W.cell? ⟨w.heap.size, 0 + 8, none⟩ = some (.int .i64 (s.usual : Int)) := fun W e => (bd.keep e (by simp)).cell rfl
    ((apply D_R rfl rfl; (intro W hW; refine AP rfl ?_; exact AE ⟨rfl, rfl, rfl⟩)) <;> (apply D_R rfl rfl; (intro W hW; refine AJ rfl ?_; exact AE ⟨rfl, rfl, rfl⟩)) <;> (apply D_R rfl rfl; (intro W hW; refine AD rfl ?_; exact AE ⟨rfl, rfl, rfl⟩)) <;> (apply D_R rfl rfl; (intro W hW; refine AG rfl (fv W hW) ?_; exact AE ⟨rfl, rfl, rfl⟩)) <;> (apply D_R rfl rfl; (intro W hW; refine AD rfl ?_; exact AE ⟨rfl, rfl, rfl⟩)) <;> (apply D_R rfl rfl; (intro W hW; refine AG rfl (g8 W hW) ?_; exact AE ⟨rfl, rfl, rfl⟩)) <;> (refine D_eql rfl rfl rfl rfl (fun hc => ?_) (fun hc => ?_) <;> try omega) <;> refine A0 ?_)
    repeat' first | refine nx rfl ?_ | fail
    have g1 := g0 _ (Ext.refl _)
    (refine AA (AD rfl ?_) <;> refine AG rfl (Blk.cell (by assumption) (by rfl)) ?_)
    refine Ar rfl rfl (by simp; omega) ?_
    ((refine AB ?_; refine AT rfl ?_))
    repeat' first | refine nx rfl ?_ | fail
    have e : sgT f.op f.name f.val f.bound = s.sign ++ [32] := by
     unfold sgT
     rw [esd]
     simp [h16, hvu]
    exact AL rfl ⟨by rw [e]; rfl, k1.trans kd, fun h => absurd h o3⟩
   ·refine Bj (.read 0 (.read 1 (.read 2 (.read 3 (.read 4 (.read 5 (.read 6 .done))))))) A6 (by kernel_rfl) (by repeat (first | exact BI | refine A9 ?_ | refine Bg ?_)) (fun wd kd ed => ⟨Ext wd, ?_, ?_⟩)
    ·exact Ext.refl _
    have bd := b1.keep kd (by simp)
    have fn : ∀ W, Ext wd W → W.cell? ⟨b, o + 1, none⟩ = some (AM f.name) := fun W e => ((k1.trans kd).trans e).cell (hcl 1 _ rfl) (by simp)
    have fv : ∀ W, Ext wd W → W.cell? ⟨b, o + 2, none⟩ = some (.int .i64 f.val) := fun W e => ((k1.trans kd).trans e).cell (hcl 2 _ rfl) (by simp)
    have fb : ∀ W, Ext wd W → W.cell? ⟨b, o + 3, none⟩ = some (.int .i64 f.bound) := fun W e => ((k1.trans kd).trans e).cell (hcl 3 _ rfl) (by simp)
    have g0 : ∀ W, Ext wd W → W.cell? ⟨w.heap.size, 0 + 0, none⟩ = some (AM s.sign) := fun W e => (bd.keep e (by simp)).cell rfl
    have g8 : ∀ W, Ext wd W → W.cell? ⟨w.heap.size, 0 + 8, none⟩ = some (.int .i64 (s.usual : Int)) := fun W e => (bd.keep e (by simp)).cell rfl
    ((apply D_R rfl rfl; (intro W hW; refine AP rfl ?_; exact AE ⟨rfl, rfl, rfl⟩)) <;> (apply D_R rfl rfl; (intro W hW; refine AJ rfl ?_; exact AE ⟨rfl, rfl, rfl⟩)) <;> (apply D_R rfl rfl; (intro W hW; refine AD rfl ?_; exact AE ⟨rfl, rfl, rfl⟩)) <;> (apply D_R rfl rfl; (intro W hW; refine AG rfl (fv W hW) ?_; exact AE ⟨rfl, rfl, rfl⟩)) <;> (apply D_R rfl rfl; (intro W hW; refine AD rfl ?_; exact AE ⟨rfl, rfl, rfl⟩)) <;> (apply D_R rfl rfl; (intro W hW; refine AG rfl (g8 W hW) ?_; exact AE ⟨rfl, rfl, rfl⟩)) <;> (refine D_eql rfl rfl rfl rfl (fun hc => ?_) (fun hc => ?_) <;> try omega) <;> refine A0 ?_)
    repeat' first | refine nx rfl ?_ | refine nf rfl ?_
    replace k1 := k1.trans kd
    replace b1 := bd
    clear fn fv fb g0 g8 bd kd ed
    refine Bj (.read 0 (.read 1 (.read 2 (.read 3 (.read 4 (.read 5 (.read 6 (.alt 7 (.read 8 (.read 9 (.read 10 .done))) .stop)))))))) A6 (by kernel_rfl) (by repeat (first | exact BI | refine A9 ?_ | refine Bg ?_)) (fun wd kd ed => ⟨Ext wd, ?_, ?_⟩)
    ·exact Ext.refl _
    have bd := b1.keep kd (by simp)
    have fn : ∀ W, Ext wd W → W.cell? ⟨b, o + 1, none⟩ = some (AM f.name) := fun W e => ((k1.trans kd).trans e).cell (hcl 1 _ rfl) (by simp)
    have fv : ∀ W, Ext wd W → W.cell? ⟨b, o + 2, none⟩ = some (.int .i64 f.val) := fun W e => ((k1.trans kd).trans e).cell (hcl 2 _ rfl) (by simp)
    have fb : ∀ W, Ext wd W → W.cell? ⟨b, o + 3, none⟩ = some (.int .i64 f.bound) := fun W e => ((k1.trans kd).trans e).cell (hcl 3 _ rfl) (by simp)
    have g0 : ∀ W, Ext wd W → W.cell? ⟨w.heap.size, 0 + 0, none⟩ = some (AM s.sign) := fun W e => (bd.keep e (by simp)).cell rfl
    have g8 : ∀ W, Ext wd W → W.cell? ⟨w.heap.size, 0 + 8, none⟩ = some (.int .i64 (s.usual : Int)) := fun W e => (bd.keep e (by simp)).cell rfl
    ((apply D_R rfl rfl; (intro W hW; refine AD rfl ?_; exact AE ⟨rfl, rfl, rfl⟩)) <;> (apply D_R rfl rfl; (intro W hW; refine AG rfl (g0 W hW) ?_; exact AE ⟨rfl, rfl, rfl⟩)))
    (apply D_R rfl rfl; (intro W hW; (refine Ar rfl rfl (by (try simp); omega) ?_); exact AE ⟨rfl, rfl, rfl⟩))
    ((apply D_R rfl rfl; (intro W hW; refine AP rfl ?_; exact AE ⟨rfl, rfl, rfl⟩)) <;> (apply D_R rfl rfl; (intro W hW; refine AJ rfl ?_; exact AE ⟨rfl, rfl, rfl⟩)) <;> (apply D_R rfl rfl; (intro W hW; refine AD rfl ?_; exact AE ⟨rfl, rfl, rfl⟩)) <;> (apply D_R rfl rfl; (intro W hW; refine AG rfl (fv W hW) ?_; exact AE ⟨rfl, rfl, rfl⟩)))
    refine D_E rfl ?_
    refine AZ (wnumber_ok wd f.val (hG.ext (k1.trans kd))) rfl ?_ ?_
    rotate_left
    ·rintro ch w3 ⟨rfl, hb2, rfl⟩
     rw [numB_of h1 (by omega)] at hb2; cases hb2
    rintro v w3 ⟨rfl, _, k3⟩
    have hnn := CB (n := f.val) (by omega)
    refine AE ⟨Ext w3, fun _ e => k3.trans e, Ext.refl _, ?_⟩
    (apply D_R rfl rfl; (intro W hW; (refine Ar rfl rfl (by (try simp); omega) ?_); exact AE ⟨rfl, rfl, rfl⟩))
    (apply D_R rfl rfl; (intro W hW; (refine Ar rfl rfl (by (try simp); omega) ?_); exact AE ⟨rfl, rfl, rfl⟩))
    ((apply D_R rfl rfl; (intro W hW; (refine AB ?_; refine AT rfl ?_); exact AE ⟨rfl, rfl, rfl⟩)) <;> refine A0 ?_)
    repeat' first | refine nx rfl ?_ | fail
    have e : sgT f.op f.name f.val f.bound = s.sign ++ [91] ++ numT f.val ++ [93, 32] := by
     unfold sgT
     rw [esd]
     simp [h16, hvu]
    exact AL rfl ⟨by rw [e]; rfl, (k1.trans kd).trans k3, fun h => absurd h o3⟩
  ·(refine AA ?_ <;> (refine AH rfl rfl (fun hc => ?_) (fun hc => ?_) <;> try omega) <;> refine AB (AC rfl ?_))
   repeat' first | refine nx rfl ?_ | refine nf rfl ?_
   (refine AA ?_ <;> (refine AH rfl rfl (fun hc => ?_) (fun hc => ?_) <;> try omega) <;> refine AB (AC rfl ?_))
   repeat' first | refine nx rfl ?_ | fail
   by_cases hvu : f.val = (s.usual : Int)
   ·refine Bj (.read 0 (.read 1 (.read 2 (.read 3 (.read 4 (.read 5 (.read 6 .done))))))) A6 (by kernel_rfl) (by repeat (first | exact BI | refine A9 ?_ | refine Bg ?_)) (fun wd kd ed => ⟨Ext wd, ?_, ?_⟩)
    ·exact Ext.refl _
    have bd := b1.keep kd (by simp)
    have fn : ∀ W, Ext wd W → W.cell? ⟨b, o + 1, none⟩ = some (AM f.name) := fun W e => ((k1.trans kd).trans e).cell (hcl 1 _ rfl) (by simp)
    have fv : ∀ W, Ext wd W → W.cell? ⟨b, o + 2, none⟩ = some (.int .i64 f.val) := fun W e => ((k1.trans kd).trans e).cell (hcl 2 _ rfl) (by simp)
    have fb : ∀ W, Ext wd W → W.cell? ⟨b, o + 3, none⟩ = some (.int .i64 f.bound) := fun W e => ((k1.trans kd).trans e).cell (hcl 3 _ rfl) (by simp)
    have g0 : ∀ W, Ext wd W → W.cell? ⟨w.heap.size, 0 + 0, none⟩ = some (AM s.sign) := fun W e => (bd.keep e (by simp)).cell rfl
    have g8 : ∀ W, Ext wd W → W.cell? ⟨w.heap.size, 0 + 8, none⟩ = some (.int .i64 (s.usual : Int)) := fun W e => (bd.keep e (by simp)).cell rfl
    ((apply D_R rfl rfl; (intro W hW; refine AP rfl ?_; exact AE ⟨rfl, rfl, rfl⟩)) <;> (apply D_R rfl rfl; (intro W hW; refine AJ rfl ?_; exact AE ⟨rfl, rfl, rfl⟩)) <;> (apply D_R rfl rfl; (intro W hW; refine AD rfl ?_; exact AE ⟨rfl, rfl, rfl⟩)) <;> (apply D_R rfl rfl; (intro W hW; refine AG rfl (fv W hW) ?_; exact AE ⟨rfl, rfl, rfl⟩)) <;> (apply D_R rfl rfl; (intro W hW; refine AD rfl ?_; exact AE ⟨rfl, rfl, rfl⟩)) <;> (apply D_R rfl rfl; (intro W hW; refine AG rfl (g8 W hW) ?_; exact AE ⟨rfl, rfl, rfl⟩)) <;> (refine D_eql rfl rfl rfl rfl (fun hc => ?_) (fun hc => ?_) <;> try omega) <;> refine A0 ?_)
    repeat' first | refine nx rfl ?_ | fail
    have g1 := g0 _ (Ext.refl _)
    (refine AA (AD rfl ?_) <;> refine AG rfl (Blk.cell (by assumption) (by rfl)) ?_)
    refine Ar rfl rfl (by simp; omega) ?_
    ((refine AB ?_; refine AT rfl ?_))
    repeat' first | refine nx rfl ?_ | fail
    have e : sgT f.op f.name f.val f.bound = s.sign ++ [32] := by
     unfold sgT
     rw [esd]
     simp [h17, hvu]
    exact AL rfl ⟨by rw [e]; rfl, k1.trans kd, fun h => absurd h o3⟩
   ·refine Bj (.read 0 (.read 1 (.read 2 (.read 3 (.read 4 (.read 5 (.read 6 .done))))))) A6 (by kernel_rfl) (by repeat (first | exact BI | refine A9 ?_ | refine Bg ?_)) (fun wd kd ed => ⟨Ext wd, ?_, ?_⟩)
    ·exact Ext.refl _
    have bd := b1.keep kd (by simp)
    have fn : ∀ W, Ext wd W → W.cell? ⟨b, o + 1, none⟩ = some (AM f.name) := fun W e => ((k1.trans kd).trans e).cell (hcl 1 _ rfl) (by simp)
    have fv : ∀ W, Ext wd W → W.cell? ⟨b, o + 2, none⟩ = some (.int .i64 f.val) := fun W e => ((k1.trans kd).trans e).cell (hcl 2 _ rfl) (by simp)
    have fb : ∀ W, Ext wd W → W.cell? ⟨b, o + 3, none⟩ = some (.int .i64 f.bound) := fun W e => ((k1.trans kd).trans e).cell (hcl 3 _ rfl) (by simp)
    have g0 : ∀ W, Ext wd W → W.cell? ⟨w.heap.size, 0 + 0, none⟩ = some (AM s.sign) := fun W e => (bd.keep e (by simp)).cell rfl
    have g8 : ∀ W, Ext wd W → W.cell? ⟨w.heap.size, 0 + 8, none⟩ = some (.int .i64 (s.usual : Int)) := fun W e => (bd.keep e (by simp)).cell rfl
    ((apply D_R rfl rfl; (intro W hW; refine AP rfl ?_; exact AE ⟨rfl, rfl, rfl⟩)) <;> (apply D_R rfl rfl; (intro W hW; refine AJ rfl ?_; exact AE ⟨rfl, rfl, rfl⟩)) <;> (apply D_R rfl rfl; (intro W hW; refine AD rfl ?_; exact AE ⟨rfl, rfl, rfl⟩)) <;> (apply D_R rfl rfl; (intro W hW; refine AG rfl (fv W hW) ?_; exact AE ⟨rfl, rfl, rfl⟩)) <;> (apply D_R rfl rfl; (intro W hW; refine AD rfl ?_; exact AE ⟨rfl, rfl, rfl⟩)) <;> (apply D_R rfl rfl; (intro W hW; refine AG rfl (g8 W hW) ?_; exact AE ⟨rfl, rfl, rfl⟩)) <;> (refine D_eql rfl rfl rfl rfl (fun hc => ?_) (fun hc => ?_) <;> try omega) <;> refine A0 ?_)
    repeat' first | refine nx rfl ?_ | refine nf rfl ?_
    replace k1 := k1.trans kd
    replace b1 := bd
    clear fn fv fb g0 g8 bd kd ed
    refine Bj (.read 0 (.read 1 (.read 2 (.read 3 (.read 4 (.read 5 (.read 6 (.alt 7 (.read 8 (.read 9 (.read 10 .done))) .stop)))))))) A6 (by kernel_rfl) (by repeat (first | exact BI | refine A9 ?_ | refine Bg ?_)) (fun wd kd ed => ⟨Ext wd, ?_, ?_⟩)
    ·exact Ext.refl _
    have bd := b1.keep kd (by simp)
    have fn : ∀ W, Ext wd W → W.cell? ⟨b, o + 1, none⟩ = some (AM f.name) := fun W e => ((k1.trans kd).trans e).cell (hcl 1 _ rfl) (by simp)
    have fv : ∀ W, Ext wd W → W.cell? ⟨b, o + 2, none⟩ = some (.int .i64 f.val) := fun W e => ((k1.trans kd).trans e).cell (hcl 2 _ rfl) (by simp)
    have fb : ∀ W, Ext wd W → W.cell? ⟨b, o + 3, none⟩ = some (.int .i64 f.bound) := fun W e => ((k1.trans kd).trans e).cell (hcl 3 _ rfl) (by simp)
    have g0 : ∀ W, Ext wd W → W.cell? ⟨w.heap.size, 0 + 0, none⟩ = some (AM s.sign) := fun W e => (bd.keep e (by simp)).cell rfl
    have g8 : ∀ W, Ext wd W → W.cell? ⟨w.heap.size, 0 + 8, none⟩ = some (.int .i64 (s.usual : Int)) := fun W e => (bd.keep e (by simp)).cell rfl
    ((apply D_R rfl rfl; (intro W hW; refine AD rfl ?_; exact AE ⟨rfl, rfl, rfl⟩)) <;> (apply D_R rfl rfl; (intro W hW; refine AG rfl (g0 W hW) ?_; exact AE ⟨rfl, rfl, rfl⟩)))
    (apply D_R rfl rfl; (intro W hW; (refine Ar rfl rfl (by (try simp); omega) ?_); exact AE ⟨rfl, rfl, rfl⟩))
    ((apply D_R rfl rfl; (intro W hW; refine AP rfl ?_; exact AE ⟨rfl, rfl, rfl⟩)) <;> (apply D_R rfl rfl; (intro W hW; refine AJ rfl ?_; exact AE ⟨rfl, rfl, rfl⟩)) <;> (apply D_R rfl rfl; (intro W hW; refine AD rfl ?_; exact AE ⟨rfl, rfl, rfl⟩)) <;> (apply D_R rfl rfl; (intro W hW; refine AG rfl (fv W hW) ?_; exact AE ⟨rfl, rfl, rfl⟩)))
    refine D_E rfl ?_
    refine AZ (wnumber_ok wd f.val (hG.ext (k1.trans kd))) rfl ?_ ?_
    rotate_left
    ·rintro ch w3 ⟨rfl, hb2, rfl⟩
     rw [numB_of h1 (by omega)] at hb2; cases hb2
    rintro v w3 ⟨rfl, _, k3⟩
    have hnn := CB (n := f.val) (by omega)
    refine AE ⟨Ext w3, fun _ e => k3.trans e, Ext.refl _, ?_⟩
    (apply D_R rfl rfl; (intro W hW; (refine Ar rfl rfl (by (try simp); omega) ?_); exact AE ⟨rfl, rfl, rfl⟩))
    (apply D_R rfl rfl; (intro W hW; (refine Ar rfl rfl (by (try simp); omega) ?_); exact AE ⟨rfl, rfl, rfl⟩))
    ((apply D_R rfl rfl; (intro W hW; (refine AB ?_; refine AT rfl ?_); exact AE ⟨rfl, rfl, rfl⟩)) <;> refine A0 ?_)
    repeat' first | refine nx rfl ?_ | fail
    have e : sgT f.op f.name f.val f.bound = s.sign ++ [91] ++ numT f.val ++ [93, 32] := by
     unfold sgT
     rw [esd]
     simp [h17, hvu]
    exact AL rfl ⟨by rw [e]; rfl, (k1.trans kd).trans k3, fun h => absurd h o3⟩
 ·(refine AA ?_ <;> (refine AH rfl rfl (fun hc => ?_) (fun hc => ?_) <;> try omega) <;> refine AB (AC rfl ?_))
  repeat' first | refine nx rfl ?_ | refine nf rfl ?_
  (refine AA ?_ <;> (refine AH rfl rfl (fun hc => ?_) (fun hc => ?_) <;> try omega) <;> refine AB (AC rfl ?_))
  repeat' first | refine nx rfl ?_ | refine nf rfl ?_
  (refine AA ?_ <;> (refine AH rfl rfl (fun hc => ?_) (fun hc => ?_) <;> try omega) <;> refine AB (AC rfl ?_))
  repeat' first | refine nx rfl ?_ | refine nf rfl ?_
  (refine AA ?_ <;> (refine AH rfl rfl (fun hc => ?_) (fun hc => ?_) <;> try omega) <;> refine AB (AC rfl ?_))
  repeat' first | refine nx rfl ?_ | refine nf rfl ?_
  (refine AA ?_ <;> (refine AH rfl rfl (fun hc => ?_) (fun hc => ?_) <;> try omega) <;> refine AB (AC rfl ?_))
  repeat' first | refine nx rfl ?_ | refine nf rfl ?_
  (refine AA ?_ <;> (refine AH rfl rfl (fun hc => ?_) (fun hc => ?_) <;> try omega) <;> refine AB (AC rfl ?_))
  repeat' first | refine nx rfl ?_ | refine nf rfl ?_
  have g1 : w1.cell? ⟨w.heap.size, 0 + 0, none⟩ = some (AM s.sign) := b1.cell rfl
  (refine AA (AD rfl ?_) <;> refine AG rfl (Blk.cell (by assumption) (by rfl)) ?_ <;> refine AB (AT rfl ?_))
  repeat' first | refine nx rfl ?_ | fail
  have e : sgT f.op f.name f.val f.bound = s.sign := by simp [sgT, o3, o13, o15, o16, esd]
  exact AL rfl ⟨by rw [e]; rfl, k1, fun h => absurd h o3⟩
end Go.Proofs.YtfcgdbmoncnibaaGreatDoor
