/- The printer: the table of styles, filled in any order. The printer: what panics, numbers, names. The printer: what a node must be, its sign. The printer: the sign of a node. The printer: the pieces of a node. Conditions: none. -/
import Derived.Test.YtfcgdbmoncnibaaGreatDoorZD9
import Derived.Test.YtfcgdbmoncnibaaGreatDoorShl

namespace Go.Proofs.YtfcgdbmoncnibaaGreatDoor
open Go.RowKit
set_option linter.unusedVariables false
variable {mk : Prop} [MK mk]
section
attribute [local semireducible] WC AX B9 Bb B6 C2 Da Bu
variable {P : Program} {all : Array Oper} {Z : Fr → DS → List PanicEntry → World → Prop} {K : Fr → DS → World → Prop} {rest : List Oper} {f : Fr} {ds : DS} {w : World} {d : Nat} {ty : TypeId} {pos : String} {af : Array Edge}
theorem Cn {x : Operand} {v : Value} (hx : ev f x = v) (h : AX P all Z K rest (upd f d v) ds w) : AX P all Z K (⟨some d, .move x, ty, pos, af, none⟩ :: rest) f ds w := by
 subst hx; exact A0 h
theorem Cd {x : Operand} {l : List Operand} {v : Value} {vs : List Value} (h : ev f x = v) (h' : evL f l = vs) : evL f (x :: l) = v :: vs := by
 subst h; subst h'; rfl
end
theorem Ai {o : Oper} {L : Nat → Bool} {j : Nat} (h : (o.after.toList.any fun e => Nat.beq e.on j && Region.binds .any e) = true) (hall : ∀ e ∈ o.after.toList, Region.binds .any e = true → L e.on = true) : L j = true := by
 obtain ⟨e, he, h2⟩ := List.any_eq_true.1 h
 simp only [Bool.and_eq_true] at h2
 have h3 : e.on = j := Nat.eq_of_beq_eq_true h2.1
 rw [← h3]; exact hall e he h2.2
theorem ins_sty : ∀ p ∈ insT, (Be p.2.1).map Bn = some p.2.2 := by
 intro p hp
 simp only [insT, List.mem_cons, List.not_mem_nil, or_false] at hp
 rcases hp with rfl | rfl | rfl | rfl | rfl | rfl | rfl | rfl | rfl | rfl | rfl | rfl | rfl | rfl | rfl | rfl | rfl | rfl | rfl <;> rfl
theorem sty_ins {op : Int} {s : Sty} (h : Be op = some s) : ∃ p ∈ insT, p.2.1 = op := by
 rcases op_cases h with rfl | rfl | rfl | rfl | rfl | rfl | rfl | rfl | rfl | rfl | rfl | rfl | rfl | rfl | rfl | rfl | rfl | rfl | rfl
 ·exact ⟨(2, 1, As 1), by simp [insT], rfl⟩
 ·exact ⟨(4, 2, As 2), by simp [insT], rfl⟩
 ·exact ⟨(6, 3, As 3), by simp [insT], rfl⟩
 ·exact ⟨(10, 4, As 4), by simp [insT], rfl⟩
 ·exact ⟨(12, 5, As 5), by simp [insT], rfl⟩
 ·exact ⟨(14, 6, As 6), by simp [insT], rfl⟩
 ·exact ⟨(16, 7, As 7), by simp [insT], rfl⟩
 ·exact ⟨(20, 8, As 8), by simp [insT], rfl⟩
 ·exact ⟨(24, 9, As 9), by simp [insT], rfl⟩
 ·exact ⟨(28, 10, As 10), by simp [insT], rfl⟩
 ·exact ⟨(32, 11, As 11), by simp [insT], rfl⟩
 ·exact ⟨(36, 12, As 12), by simp [insT], rfl⟩
 ·exact ⟨(40, 13, As 13), by simp [insT], rfl⟩
 ·exact ⟨(44, 14, As 14), by simp [insT], rfl⟩
 ·exact ⟨(48, 15, As 15), by simp [insT], rfl⟩
 ·exact ⟨(52, 16, As 16), by simp [insT], rfl⟩
 ·exact ⟨(56, 17, As 17), by simp [insT], rfl⟩
 ·exact ⟨(60, 18, As 18), by simp [insT], rfl⟩
 ·exact ⟨(64, 19, As 19), by simp [insT], rfl⟩
def StyM (w : World) (r : Nat) : Prop := ∃ M, VMap w r M ∧ ∀ op, M.lookup op = (Be op).map Bn
theorem StyM.keep {X : List Nat} {w w' : World} {r : Nat} (h : StyM w r) (k : Keep X w w') (hr : r ∉ X) : StyM w' r := by
 obtain ⟨M, h1, h2⟩ := h
 exact ⟨M, h1.keep k hr, h2⟩
set_option maxHeartbeats 6400000 in
set_option maxRecDepth 20000 in
theorem styles_ok (w : World) : Fn Tryz.prog 74 [] w fun v w' => ∃ r, v = .map (some r) ∧ Ext w w' ∧ w.heap.size ≤ r ∧ StyM w' r := by
 refine Ae Tryz.func74 rfl Tryz.ntmps74 (Nat.le_of_ble_eq_true rfl) (by kernel_rfl) ?_
 repeat refine nx rfl ?_
 refine AA (AC (M_map rfl ?_))
 repeat refine nx rfl ?_
 refine AA (Af (by rfl) (by rfl) ?_)
 refine A7 (cs := CP pfx) rfl rfl (by rfl) (styC_one _) (fun w1 n1 => AJ ?_)
 repeat refine nx rfl ?_
 refine AA (Af (by rfl) (by rfl) ?_)
 refine A7 (cs := CP ifx) rfl rfl (by rfl) (styC_one _) (fun w2 n2 => AJ ?_)
 repeat refine nx rfl ?_
 refine AA (AC (Cr rfl ?_))
 repeat refine nx rfl ?_
 refine AA (AC (Cr rfl ?_))
 repeat refine nx rfl ?_
 refine AA (AC (Cr rfl ?_))
 repeat refine nx rfl ?_
 have k2 : Ext w w2 := n1.keep.trans n2.keep
 have B1 : Blk w2 w.heap.size 129 (CP pfx) := n1.blk.keep n2.keep (by simp)
 have B2 : Blk w2 w1.heap.size 129 (CP ifx) := n2.blk
 refine C_inv (StyInv w.heap.size w1.heap.size w2 []) BA (by kernel_rfl) ?_ ?_ ?_
 ·intro w3 k3 e3
  refine ⟨rfl, k3, rfl, rfl, rfl, rfl, rfl, fun p hp hL => ?_, fun p hp hL => ?_, fun hL => (by cases hL), fun hL => (by cases hL), fun hL => (by cases hL), fun hL => (by cases hL)⟩
  ·have := (v_ops p hp).1
   have hb : Nat.blt p.1 67 = true := by rw [Nat.blt_eq]; exact this
   have hL : (!Nat.blt p.1 67) = true := hL
   rw [hb] at hL; cases hL
  ·have := (i_ops p hp).1
   have hb : Nat.blt p.1 67 = true := by rw [Nat.blt_eq]; exact this
   have hL : (!Nat.blt p.1 67) = true := hL
   rw [hb] at hL; cases hL
 ·intro L f ds w i o hI ho hL haft
  have hB1 : Blk w2 _ 129 (CP pfx) := B1
  have hB2 : Blk w2 _ 129 (CP ifx) := B2
  have hlt : i < 67 := (List.getElem?_eq_some_iff.1 ho).1
  match i, hlt, ho, hL, haft with
  | 0, _, ho, hL, haft =>
   obtain rfl := Option.some.inj ho
   refine W_makeMapV (fun w1 k1 z1 m1 => AJ ?_)
   exact styInv_make hI k1 m1 hL
  | 1, _, ho, hL, haft =>
   obtain rfl := Option.some.inj ho
   refine Af (vs := _) (out := CP (styK 1)) rfl (by kernel_rfl) (AJ ?_)
   exact Al (p := (1, 9, As 1)) hI (by simp [valT]) (Ext.refl _)
  | 2, _, ho, hL, haft =>
   obtain rfl := Option.some.inj ho
   have h0 : L 0 = true := Ai (j := 0) (by kernel_rfl) haft
   have h1 : L 1 = true := Ai (j := 1) (by kernel_rfl) haft
   obtain ⟨r, M, hr, hlr, hM, hm⟩ := hI.map h0
   refine Bi (x := 1) (y := As 1) hr rfl (hI.vals (1, 9, As 1) (by simp [valT]) h1) hM (hI.none (q := (2, 1, As 1)) (by simp [insT]) hL hm) (fun w1 k1 z1 m1 => AJ ?_)
   exact BV (q := (2, 1, As 1)) hI (by simp [insT]) hr hlr hm k1 m1 h0
  | 3, _, ho, hL, haft =>
   obtain rfl := Option.some.inj ho
   refine Af (vs := _) (out := CP (styK 2)) rfl (by kernel_rfl) (AJ ?_)
   exact Al (p := (3, 10, As 2)) hI (by simp [valT]) (Ext.refl _)
  | 4, _, ho, hL, haft =>
   obtain rfl := Option.some.inj ho
   have h0 : L 0 = true := Ai (j := 0) (by kernel_rfl) haft
   have h1 : L 3 = true := Ai (j := 3) (by kernel_rfl) haft
   obtain ⟨r, M, hr, hlr, hM, hm⟩ := hI.map h0
   refine Bi (x := 2) (y := As 2) hr rfl (hI.vals (3, 10, As 2) (by simp [valT]) h1) hM (hI.none (q := (4, 2, As 2)) (by simp [insT]) hL hm) (fun w1 k1 z1 m1 => AJ ?_)
   exact BV (q := (4, 2, As 2)) hI (by simp [insT]) hr hlr hm k1 m1 h0
  | 5, _, ho, hL, haft =>
   obtain rfl := Option.some.inj ho
   refine Af (vs := _) (out := CP (styK 3)) rfl (by kernel_rfl) (AJ ?_)
   exact Al (p := (5, 11, As 3)) hI (by simp [valT]) (Ext.refl _)
  | 6, _, ho, hL, haft =>
   obtain rfl := Option.some.inj ho
   have h0 : L 0 = true := Ai (j := 0) (by kernel_rfl) haft
   have h1 : L 5 = true := Ai (j := 5) (by kernel_rfl) haft
   obtain ⟨r, M, hr, hlr, hM, hm⟩ := hI.map h0
   refine Bi (x := 3) (y := As 3) hr rfl (hI.vals (5, 11, As 3) (by simp [valT]) h1) hM (hI.none (q := (6, 3, As 3)) (by simp [insT]) hL hm) (fun w1 k1 z1 m1 => AJ ?_)
   exact BV (q := (6, 3, As 3)) hI (by simp [insT]) hr hlr hm k1 m1 h0
  | 7, _, ho, hL, haft =>
   obtain rfl := Option.some.inj ho
   refine Cn (v := fn1) hI.p3 (AJ ?_)
   exact Al (p := (7, 12, fn1)) hI (by simp [valT]) (Ext.refl _)
  | 8, _, ho, hL, haft =>
   obtain rfl := Option.some.inj ho
   refine AV hI.p1 (hB1.keep hI.ext (by simp)) rfl (AJ ?_)
   exact Al (p := (8, 13, Bn pfx)) hI (by simp [valT]) (Ext.refl _)
  | 9, _, ho, hL, haft =>
   obtain rfl := Option.some.inj ho
   have h1 : L 7 = true := Ai (j := 7) (by kernel_rfl) haft
   have h2 : L 8 = true := Ai (j := 8) (by kernel_rfl) haft
   refine CA (v1 := []) (v2 := []) (vs := [Bn pfx, AK [33]]) (hI.vals (7, 12, fn1) (by simp [valT]) h1) (Do w pfx _) (Cd (hI.vals (8, 13, Bn pfx) (by simp [valT]) h2) rfl) ?_
   rintro _ w1 ⟨rfl, k1⟩
   refine AJ ?_
   exact Al (p := (9, 14, As 4)) hI (by simp [valT]) k1
  | 10, _, ho, hL, haft =>
   obtain rfl := Option.some.inj ho
   have h0 : L 0 = true := Ai (j := 0) (by kernel_rfl) haft
   have h1 : L 9 = true := Ai (j := 9) (by kernel_rfl) haft
   obtain ⟨r, M, hr, hlr, hM, hm⟩ := hI.map h0
   refine Bi (x := 4) (y := As 4) hr rfl (hI.vals (9, 14, As 4) (by simp [valT]) h1) hM (hI.none (q := (10, 4, As 4)) (by simp [insT]) hL hm) (fun w1 k1 z1 m1 => AJ ?_)
   exact BV (q := (10, 4, As 4)) hI (by simp [insT]) hr hlr hm k1 m1 h0
  | 11, _, ho, hL, haft =>
   obtain rfl := Option.some.inj ho
   refine Af (vs := _) (out := CP (styK 5)) rfl (by kernel_rfl) (AJ ?_)
   exact Al (p := (11, 15, As 5)) hI (by simp [valT]) (Ext.refl _)
  | 12, _, ho, hL, haft =>
   obtain rfl := Option.some.inj ho
   have h0 : L 0 = true := Ai (j := 0) (by kernel_rfl) haft
   have h1 : L 11 = true := Ai (j := 11) (by kernel_rfl) haft
   obtain ⟨r, M, hr, hlr, hM, hm⟩ := hI.map h0
   refine Bi (x := 5) (y := As 5) hr rfl (hI.vals (11, 15, As 5) (by simp [valT]) h1) hM (hI.none (q := (12, 5, As 5)) (by simp [insT]) hL hm) (fun w1 k1 z1 m1 => AJ ?_)
   exact BV (q := (12, 5, As 5)) hI (by simp [insT]) hr hlr hm k1 m1 h0
  | 13, _, ho, hL, haft =>
   obtain rfl := Option.some.inj ho
   refine Af (vs := _) (out := CP (styK 6)) rfl (by kernel_rfl) (AJ ?_)
   exact Al (p := (13, 16, As 6)) hI (by simp [valT]) (Ext.refl _)
  | 14, _, ho, hL, haft =>
   obtain rfl := Option.some.inj ho
   have h0 : L 0 = true := Ai (j := 0) (by kernel_rfl) haft
   have h1 : L 13 = true := Ai (j := 13) (by kernel_rfl) haft
   obtain ⟨r, M, hr, hlr, hM, hm⟩ := hI.map h0
   refine Bi (x := 6) (y := As 6) hr rfl (hI.vals (13, 16, As 6) (by simp [valT]) h1) hM (hI.none (q := (14, 6, As 6)) (by simp [insT]) hL hm) (fun w1 k1 z1 m1 => AJ ?_)
   exact BV (q := (14, 6, As 6)) hI (by simp [insT]) hr hlr hm k1 m1 h0
  | 15, _, ho, hL, haft =>
   obtain rfl := Option.some.inj ho
   refine Af (vs := _) (out := CP (styK 7)) rfl (by kernel_rfl) (AJ ?_)
   exact Al (p := (15, 17, As 7)) hI (by simp [valT]) (Ext.refl _)
  | 16, _, ho, hL, haft =>
   obtain rfl := Option.some.inj ho
   have h0 : L 0 = true := Ai (j := 0) (by kernel_rfl) haft
   have h1 : L 15 = true := Ai (j := 15) (by kernel_rfl) haft
   obtain ⟨r, M, hr, hlr, hM, hm⟩ := hI.map h0
   refine Bi (x := 7) (y := As 7) hr rfl (hI.vals (15, 17, As 7) (by simp [valT]) h1) hM (hI.none (q := (16, 7, As 7)) (by simp [insT]) hL hm) (fun w1 k1 z1 m1 => AJ ?_)
   exact BV (q := (16, 7, As 7)) hI (by simp [insT]) hr hlr hm k1 m1 h0
  | 17, _, ho, hL, haft =>
   obtain rfl := Option.some.inj ho
   refine Cn (v := fn1) hI.p3 (AJ ?_)
   exact Al (p := (17, 18, fn1)) hI (by simp [valT]) (Ext.refl _)
  | 18, _, ho, hL, haft =>
   obtain rfl := Option.some.inj ho
   refine AV hI.p1 (hB1.keep hI.ext (by simp)) rfl (AJ ?_)
   exact Al (p := (18, 19, Bn pfx)) hI (by simp [valT]) (Ext.refl _)
  | 19, _, ho, hL, haft =>
   obtain rfl := Option.some.inj ho
   have h1 : L 17 = true := Ai (j := 17) (by kernel_rfl) haft
   have h2 : L 18 = true := Ai (j := 18) (by kernel_rfl) haft
   refine CA (v1 := []) (v2 := []) (vs := [Bn pfx, AK [88, 32]]) (hI.vals (17, 18, fn1) (by simp [valT]) h1) (Do w pfx _) (Cd (hI.vals (18, 19, Bn pfx) (by simp [valT]) h2) rfl) ?_
   rintro _ w1 ⟨rfl, k1⟩
   refine AJ ?_
   exact Al (p := (19, 20, As 8)) hI (by simp [valT]) k1
  | 20, _, ho, hL, haft =>
   obtain rfl := Option.some.inj ho
   have h0 : L 0 = true := Ai (j := 0) (by kernel_rfl) haft
   have h1 : L 19 = true := Ai (j := 19) (by kernel_rfl) haft
   obtain ⟨r, M, hr, hlr, hM, hm⟩ := hI.map h0
   refine Bi (x := 8) (y := As 8) hr rfl (hI.vals (19, 20, As 8) (by simp [valT]) h1) hM (hI.none (q := (20, 8, As 8)) (by simp [insT]) hL hm) (fun w1 k1 z1 m1 => AJ ?_)
   exact BV (q := (20, 8, As 8)) hI (by simp [insT]) hr hlr hm k1 m1 h0
  | 21, _, ho, hL, haft =>
   obtain rfl := Option.some.inj ho
   refine Cn (v := fn1) hI.p3 (AJ ?_)
   exact Al (p := (21, 21, fn1)) hI (by simp [valT]) (Ext.refl _)
  | 22, _, ho, hL, haft =>
   obtain rfl := Option.some.inj ho
   refine AV hI.p2 (hB2.keep hI.ext (by simp)) rfl (AJ ?_)
   exact Al (p := (22, 22, Bn ifx)) hI (by simp [valT]) (Ext.refl _)
  | 23, _, ho, hL, haft =>
   obtain rfl := Option.some.inj ho
   have h1 : L 21 = true := Ai (j := 21) (by kernel_rfl) haft
   have h2 : L 22 = true := Ai (j := 22) (by kernel_rfl) haft
   refine CA (v1 := []) (v2 := []) (vs := [Bn ifx, AK [32, 85, 32]]) (hI.vals (21, 21, fn1) (by simp [valT]) h1) (Do w ifx _) (Cd (hI.vals (22, 22, Bn ifx) (by simp [valT]) h2) rfl) ?_
   rintro _ w1 ⟨rfl, k1⟩
   refine AJ ?_
   exact Al (p := (23, 23, As 9)) hI (by simp [valT]) k1
  | 24, _, ho, hL, haft =>
   obtain rfl := Option.some.inj ho
   have h0 : L 0 = true := Ai (j := 0) (by kernel_rfl) haft
   have h1 : L 23 = true := Ai (j := 23) (by kernel_rfl) haft
   obtain ⟨r, M, hr, hlr, hM, hm⟩ := hI.map h0
   refine Bi (x := 9) (y := As 9) hr rfl (hI.vals (23, 23, As 9) (by simp [valT]) h1) hM (hI.none (q := (24, 9, As 9)) (by simp [insT]) hL hm) (fun w1 k1 z1 m1 => AJ ?_)
   exact BV (q := (24, 9, As 9)) hI (by simp [insT]) hr hlr hm k1 m1 h0
  | 25, _, ho, hL, haft =>
   obtain rfl := Option.some.inj ho
   refine Cn (v := fn1) hI.p3 (AJ ?_)
   exact Al (p := (25, 24, fn1)) hI (by simp [valT]) (Ext.refl _)
  | 26, _, ho, hL, haft =>
   obtain rfl := Option.some.inj ho
   refine AV hI.p2 (hB2.keep hI.ext (by simp)) rfl (AJ ?_)
   exact Al (p := (26, 25, Bn ifx)) hI (by simp [valT]) (Ext.refl _)
  | 27, _, ho, hL, haft =>
   obtain rfl := Option.some.inj ho
   have h1 : L 25 = true := Ai (j := 25) (by kernel_rfl) haft
   have h2 : L 26 = true := Ai (j := 26) (by kernel_rfl) haft
   refine CA (v1 := []) (v2 := []) (vs := [Bn ifx, AK [32, 82, 32]]) (hI.vals (25, 24, fn1) (by simp [valT]) h1) (Do w ifx _) (Cd (hI.vals (26, 25, Bn ifx) (by simp [valT]) h2) rfl) ?_
   rintro _ w1 ⟨rfl, k1⟩
   refine AJ ?_
   exact Al (p := (27, 26, As 10)) hI (by simp [valT]) k1
  | 28, _, ho, hL, haft =>
   obtain rfl := Option.some.inj ho
   have h0 : L 0 = true := Ai (j := 0) (by kernel_rfl) haft
   have h1 : L 27 = true := Ai (j := 27) (by kernel_rfl) haft
   obtain ⟨r, M, hr, hlr, hM, hm⟩ := hI.map h0
   refine Bi (x := 10) (y := As 10) hr rfl (hI.vals (27, 26, As 10) (by simp [valT]) h1) hM (hI.none (q := (28, 10, As 10)) (by simp [insT]) hL hm) (fun w1 k1 z1 m1 => AJ ?_)
   exact BV (q := (28, 10, As 10)) hI (by simp [insT]) hr hlr hm k1 m1 h0
  | 29, _, ho, hL, haft =>
   obtain rfl := Option.some.inj ho
   refine Cn (v := fn1) hI.p3 (AJ ?_)
   exact Al (p := (29, 27, fn1)) hI (by simp [valT]) (Ext.refl _)
  | 30, _, ho, hL, haft =>
   obtain rfl := Option.some.inj ho
   refine AV hI.p1 (hB1.keep hI.ext (by simp)) rfl (AJ ?_)
   exact Al (p := (30, 28, Bn pfx)) hI (by simp [valT]) (Ext.refl _)
  | 31, _, ho, hL, haft =>
   obtain rfl := Option.some.inj ho
   have h1 : L 29 = true := Ai (j := 29) (by kernel_rfl) haft
   have h2 : L 30 = true := Ai (j := 30) (by kernel_rfl) haft
   refine CA (v1 := []) (v2 := []) (vs := [Bn pfx, AK [70, 32]]) (hI.vals (29, 27, fn1) (by simp [valT]) h1) (Do w pfx _) (Cd (hI.vals (30, 28, Bn pfx) (by simp [valT]) h2) rfl) ?_
   rintro _ w1 ⟨rfl, k1⟩
   refine AJ ?_
   exact Al (p := (31, 29, As 11)) hI (by simp [valT]) k1
  | 32, _, ho, hL, haft =>
   obtain rfl := Option.some.inj ho
   have h0 : L 0 = true := Ai (j := 0) (by kernel_rfl) haft
   have h1 : L 31 = true := Ai (j := 31) (by kernel_rfl) haft
   obtain ⟨r, M, hr, hlr, hM, hm⟩ := hI.map h0
   refine Bi (x := 11) (y := As 11) hr rfl (hI.vals (31, 29, As 11) (by simp [valT]) h1) hM (hI.none (q := (32, 11, As 11)) (by simp [insT]) hL hm) (fun w1 k1 z1 m1 => AJ ?_)
   exact BV (q := (32, 11, As 11)) hI (by simp [insT]) hr hlr hm k1 m1 h0
  | 33, _, ho, hL, haft =>
   obtain rfl := Option.some.inj ho
   refine Cn (v := fn1) hI.p3 (AJ ?_)
   exact Al (p := (33, 30, fn1)) hI (by simp [valT]) (Ext.refl _)
  | 34, _, ho, hL, haft =>
   obtain rfl := Option.some.inj ho
   refine AV hI.p1 (hB1.keep hI.ext (by simp)) rfl (AJ ?_)
   exact Al (p := (34, 31, Bn pfx)) hI (by simp [valT]) (Ext.refl _)
  | 35, _, ho, hL, haft =>
   obtain rfl := Option.some.inj ho
   have h1 : L 33 = true := Ai (j := 33) (by kernel_rfl) haft
   have h2 : L 34 = true := Ai (j := 34) (by kernel_rfl) haft
   refine CA (v1 := []) (v2 := []) (vs := [Bn pfx, AK [71, 32]]) (hI.vals (33, 30, fn1) (by simp [valT]) h1) (Do w pfx _) (Cd (hI.vals (34, 31, Bn pfx) (by simp [valT]) h2) rfl) ?_
   rintro _ w1 ⟨rfl, k1⟩
   refine AJ ?_
   exact Al (p := (35, 32, As 12)) hI (by simp [valT]) k1
  | 36, _, ho, hL, haft =>
   obtain rfl := Option.some.inj ho
   have h0 : L 0 = true := Ai (j := 0) (by kernel_rfl) haft
   have h1 : L 35 = true := Ai (j := 35) (by kernel_rfl) haft
   obtain ⟨r, M, hr, hlr, hM, hm⟩ := hI.map h0
   refine Bi (x := 12) (y := As 12) hr rfl (hI.vals (35, 32, As 12) (by simp [valT]) h1) hM (hI.none (q := (36, 12, As 12)) (by simp [insT]) hL hm) (fun w1 k1 z1 m1 => AJ ?_)
   exact BV (q := (36, 12, As 12)) hI (by simp [insT]) hr hlr hm k1 m1 h0
  | 37, _, ho, hL, haft =>
   obtain rfl := Option.some.inj ho
   refine Cn (v := fn3) hI.p5 (AJ ?_)
   exact Al (p := (37, 33, fn3)) hI (by simp [valT]) (Ext.refl _)
  | 38, _, ho, hL, haft =>
   obtain rfl := Option.some.inj ho
   refine AV hI.p1 (hB1.keep hI.ext (by simp)) rfl (AJ ?_)
   exact Al (p := (38, 34, Bn pfx)) hI (by simp [valT]) (Ext.refl _)
  | 39, _, ho, hL, haft =>
   obtain rfl := Option.some.inj ho
   have h1 : L 37 = true := Ai (j := 37) (by kernel_rfl) haft
   have h2 : L 38 = true := Ai (j := 38) (by kernel_rfl) haft
   refine CA (v1 := []) (v2 := []) (vs := [Bn pfx, AK [70, 91]]) (hI.vals (37, 33, fn3) (by simp [valT]) h1) (bounded_ok w pfx _) (Cd (hI.vals (38, 34, Bn pfx) (by simp [valT]) h2) rfl) ?_
   rintro _ w1 ⟨rfl, k1⟩
   refine AJ ?_
   exact Al (p := (39, 35, As 13)) hI (by simp [valT]) k1
  | 40, _, ho, hL, haft =>
   obtain rfl := Option.some.inj ho
   have h0 : L 0 = true := Ai (j := 0) (by kernel_rfl) haft
   have h1 : L 39 = true := Ai (j := 39) (by kernel_rfl) haft
   obtain ⟨r, M, hr, hlr, hM, hm⟩ := hI.map h0
   refine Bi (x := 13) (y := As 13) hr rfl (hI.vals (39, 35, As 13) (by simp [valT]) h1) hM (hI.none (q := (40, 13, As 13)) (by simp [insT]) hL hm) (fun w1 k1 z1 m1 => AJ ?_)
   exact BV (q := (40, 13, As 13)) hI (by simp [insT]) hr hlr hm k1 m1 h0
  | 41, _, ho, hL, haft =>
   obtain rfl := Option.some.inj ho
   refine Cn (v := fn3) hI.p5 (AJ ?_)
   exact Al (p := (41, 36, fn3)) hI (by simp [valT]) (Ext.refl _)
  | 42, _, ho, hL, haft =>
   obtain rfl := Option.some.inj ho
   refine AV hI.p1 (hB1.keep hI.ext (by simp)) rfl (AJ ?_)
   exact Al (p := (42, 37, Bn pfx)) hI (by simp [valT]) (Ext.refl _)
  | 43, _, ho, hL, haft =>
   obtain rfl := Option.some.inj ho
   have h1 : L 41 = true := Ai (j := 41) (by kernel_rfl) haft
   have h2 : L 42 = true := Ai (j := 42) (by kernel_rfl) haft
   refine CA (v1 := []) (v2 := []) (vs := [Bn pfx, AK [71, 91]]) (hI.vals (41, 36, fn3) (by simp [valT]) h1) (bounded_ok w pfx _) (Cd (hI.vals (42, 37, Bn pfx) (by simp [valT]) h2) rfl) ?_
   rintro _ w1 ⟨rfl, k1⟩
   refine AJ ?_
   exact Al (p := (43, 38, As 14)) hI (by simp [valT]) k1
  | 44, _, ho, hL, haft =>
   obtain rfl := Option.some.inj ho
   have h0 : L 0 = true := Ai (j := 0) (by kernel_rfl) haft
   have h1 : L 43 = true := Ai (j := 43) (by kernel_rfl) haft
   obtain ⟨r, M, hr, hlr, hM, hm⟩ := hI.map h0
   refine Bi (x := 14) (y := As 14) hr rfl (hI.vals (43, 38, As 14) (by simp [valT]) h1) hM (hI.none (q := (44, 14, As 14)) (by simp [insT]) hL hm) (fun w1 k1 z1 m1 => AJ ?_)
   exact BV (q := (44, 14, As 14)) hI (by simp [insT]) hr hlr hm k1 m1 h0
  | 45, _, ho, hL, haft =>
   obtain rfl := Option.some.inj ho
   refine Cn (v := fn2) hI.p4 (AJ ?_)
   exact Al (p := (45, 39, fn2)) hI (by simp [valT]) (Ext.refl _)
  | 46, _, ho, hL, haft =>
   obtain rfl := Option.some.inj ho
   refine AV hI.p1 (hB1.keep hI.ext (by simp)) rfl (AJ ?_)
   exact Al (p := (46, 40, Bn pfx)) hI (by simp [valT]) (Ext.refl _)
  | 47, _, ho, hL, haft =>
   obtain rfl := Option.some.inj ho
   have h1 : L 45 = true := Ai (j := 45) (by kernel_rfl) haft
   have h2 : L 46 = true := Ai (j := 46) (by kernel_rfl) haft
   refine CA (v1 := []) (v2 := []) (vs := [Bn pfx, AK [89, 32], .int .i64 1, .int .i64 0]) (hI.vals (45, 39, fn2) (by simp [valT]) h1) (valued_ok w pfx _ 1 0) (Cd (hI.vals (46, 40, Bn pfx) (by simp [valT]) h2) rfl) ?_
   rintro _ w1 ⟨rfl, k1⟩
   refine AJ ?_
   exact Al (p := (47, 41, As 15)) hI (by simp [valT]) k1
  | 48, _, ho, hL, haft =>
   obtain rfl := Option.some.inj ho
   have h0 : L 0 = true := Ai (j := 0) (by kernel_rfl) haft
   have h1 : L 47 = true := Ai (j := 47) (by kernel_rfl) haft
   obtain ⟨r, M, hr, hlr, hM, hm⟩ := hI.map h0
   refine Bi (x := 15) (y := As 15) hr rfl (hI.vals (47, 41, As 15) (by simp [valT]) h1) hM (hI.none (q := (48, 15, As 15)) (by simp [insT]) hL hm) (fun w1 k1 z1 m1 => AJ ?_)
   exact BV (q := (48, 15, As 15)) hI (by simp [insT]) hr hlr hm k1 m1 h0
  | 49, _, ho, hL, haft =>
   obtain rfl := Option.some.inj ho
   refine Cn (v := fn2) hI.p4 (AJ ?_)
   exact Al (p := (49, 42, fn2)) hI (by simp [valT]) (Ext.refl _)
  | 50, _, ho, hL, haft =>
   obtain rfl := Option.some.inj ho
   refine AV hI.p2 (hB2.keep hI.ext (by simp)) rfl (AJ ?_)
   exact Al (p := (50, 43, Bn ifx)) hI (by simp [valT]) (Ext.refl _)
  | 51, _, ho, hL, haft =>
   obtain rfl := Option.some.inj ho
   have h1 : L 49 = true := Ai (j := 49) (by kernel_rfl) haft
   have h2 : L 50 = true := Ai (j := 50) (by kernel_rfl) haft
   refine CA (v1 := []) (v2 := []) (vs := [Bn ifx, AK [32, 83], .int .i64 9999, .int .i64 0]) (hI.vals (49, 42, fn2) (by simp [valT]) h1) (valued_ok w ifx _ 9999 0) (Cd (hI.vals (50, 43, Bn ifx) (by simp [valT]) h2) rfl) ?_
   rintro _ w1 ⟨rfl, k1⟩
   refine AJ ?_
   exact Al (p := (51, 44, As 16)) hI (by simp [valT]) k1
  | 52, _, ho, hL, haft =>
   obtain rfl := Option.some.inj ho
   have h0 : L 0 = true := Ai (j := 0) (by kernel_rfl) haft
   have h1 : L 51 = true := Ai (j := 51) (by kernel_rfl) haft
   obtain ⟨r, M, hr, hlr, hM, hm⟩ := hI.map h0
   refine Bi (x := 16) (y := As 16) hr rfl (hI.vals (51, 44, As 16) (by simp [valT]) h1) hM (hI.none (q := (52, 16, As 16)) (by simp [insT]) hL hm) (fun w1 k1 z1 m1 => AJ ?_)
   exact BV (q := (52, 16, As 16)) hI (by simp [insT]) hr hlr hm k1 m1 h0
  | 53, _, ho, hL, haft =>
   obtain rfl := Option.some.inj ho
   refine Cn (v := fn2) hI.p4 (AJ ?_)
   exact Al (p := (53, 45, fn2)) hI (by simp [valT]) (Ext.refl _)
  | 54, _, ho, hL, haft =>
   obtain rfl := Option.some.inj ho
   refine AV hI.p2 (hB2.keep hI.ext (by simp)) rfl (AJ ?_)
   exact Al (p := (54, 46, Bn ifx)) hI (by simp [valT]) (Ext.refl _)
  | 55, _, ho, hL, haft =>
   obtain rfl := Option.some.inj ho
   have h1 : L 53 = true := Ai (j := 53) (by kernel_rfl) haft
   have h2 : L 54 = true := Ai (j := 54) (by kernel_rfl) haft
   refine CA (v1 := []) (v2 := []) (vs := [Bn ifx, AK [32, 84], .int .i64 9999, .int .i64 1]) (hI.vals (53, 45, fn2) (by simp [valT]) h1) (valued_ok w ifx _ 9999 1) (Cd (hI.vals (54, 46, Bn ifx) (by simp [valT]) h2) rfl) ?_
   rintro _ w1 ⟨rfl, k1⟩
   refine AJ ?_
   exact Al (p := (55, 47, As 17)) hI (by simp [valT]) k1
  | 56, _, ho, hL, haft =>
   obtain rfl := Option.some.inj ho
   have h0 : L 0 = true := Ai (j := 0) (by kernel_rfl) haft
   have h1 : L 55 = true := Ai (j := 55) (by kernel_rfl) haft
   obtain ⟨r, M, hr, hlr, hM, hm⟩ := hI.map h0
   refine Bi (x := 17) (y := As 17) hr rfl (hI.vals (55, 47, As 17) (by simp [valT]) h1) hM (hI.none (q := (56, 17, As 17)) (by simp [insT]) hL hm) (fun w1 k1 z1 m1 => AJ ?_)
   exact BV (q := (56, 17, As 17)) hI (by simp [insT]) hr hlr hm k1 m1 h0
  | 57, _, ho, hL, haft =>
   obtain rfl := Option.some.inj ho
   refine Cn (v := fn1) hI.p3 (AJ ?_)
   exact Al (p := (57, 48, fn1)) hI (by simp [valT]) (Ext.refl _)
  | 58, _, ho, hL, haft =>
   obtain rfl := Option.some.inj ho
   refine AV hI.p1 (hB1.keep hI.ext (by simp)) rfl (AJ ?_)
   exact Al (p := (58, 49, Bn pfx)) hI (by simp [valT]) (Ext.refl _)
  | 59, _, ho, hL, haft =>
   obtain rfl := Option.some.inj ho
   have h1 : L 57 = true := Ai (j := 57) (by kernel_rfl) haft
   have h2 : L 58 = true := Ai (j := 58) (by kernel_rfl) haft
   refine CA (v1 := []) (v2 := []) (vs := [Bn pfx, AK [79, 32]]) (hI.vals (57, 48, fn1) (by simp [valT]) h1) (Do w pfx _) (Cd (hI.vals (58, 49, Bn pfx) (by simp [valT]) h2) rfl) ?_
   rintro _ w1 ⟨rfl, k1⟩
   refine AJ ?_
   exact Al (p := (59, 50, As 18)) hI (by simp [valT]) k1
  | 60, _, ho, hL, haft =>
   obtain rfl := Option.some.inj ho
   have h0 : L 0 = true := Ai (j := 0) (by kernel_rfl) haft
   have h1 : L 59 = true := Ai (j := 59) (by kernel_rfl) haft
   obtain ⟨r, M, hr, hlr, hM, hm⟩ := hI.map h0
   refine Bi (x := 18) (y := As 18) hr rfl (hI.vals (59, 50, As 18) (by simp [valT]) h1) hM (hI.none (q := (60, 18, As 18)) (by simp [insT]) hL hm) (fun w1 k1 z1 m1 => AJ ?_)
   exact BV (q := (60, 18, As 18)) hI (by simp [insT]) hr hlr hm k1 m1 h0
  | 61, _, ho, hL, haft =>
   obtain rfl := Option.some.inj ho
   refine Cn (v := fn1) hI.p3 (AJ ?_)
   exact Al (p := (61, 51, fn1)) hI (by simp [valT]) (Ext.refl _)
  | 62, _, ho, hL, haft =>
   obtain rfl := Option.some.inj ho
   refine AV hI.p1 (hB1.keep hI.ext (by simp)) rfl (AJ ?_)
   exact Al (p := (62, 52, Bn pfx)) hI (by simp [valT]) (Ext.refl _)
  | 63, _, ho, hL, haft =>
   obtain rfl := Option.some.inj ho
   have h1 : L 61 = true := Ai (j := 61) (by kernel_rfl) haft
   have h2 : L 62 = true := Ai (j := 62) (by kernel_rfl) haft
   refine CA (v1 := []) (v2 := []) (vs := [Bn pfx, AK [72, 32]]) (hI.vals (61, 51, fn1) (by simp [valT]) h1) (Do w pfx _) (Cd (hI.vals (62, 52, Bn pfx) (by simp [valT]) h2) rfl) ?_
   rintro _ w1 ⟨rfl, k1⟩
   refine AJ ?_
   exact Al (p := (63, 53, As 19)) hI (by simp [valT]) k1
  | 64, _, ho, hL, haft =>
   obtain rfl := Option.some.inj ho
   have h0 : L 0 = true := Ai (j := 0) (by kernel_rfl) haft
   have h1 : L 63 = true := Ai (j := 63) (by kernel_rfl) haft
   obtain ⟨r, M, hr, hlr, hM, hm⟩ := hI.map h0
   refine Bi (x := 19) (y := As 19) hr rfl (hI.vals (63, 53, As 19) (by simp [valT]) h1) hM (hI.none (q := (64, 19, As 19)) (by simp [insT]) hL hm) (fun w1 k1 z1 m1 => AJ ?_)
   exact BV (q := (64, 19, As 19)) hI (by simp [insT]) hr hlr hm k1 m1 h0
  | 65, _, ho, hL, haft =>
   obtain rfl := Option.some.inj ho
   have h0 : L 0 = true := Ai (j := 0) (by kernel_rfl) haft
   refine Cn (v := f 8) rfl (AJ ?_)
   exact styInv_65 hI h0
  | 66, _, ho, hL, haft =>
   obtain rfl := Option.some.inj ho
   have h0 : L 65 = true := Ai (j := 65) (by kernel_rfl) haft
   refine AC ?_
   refine Cn (v := f 54) rfl (AJ ?_)
   exact styInv_66 hI h0
 ·intro L f ds w hI hall
  obtain ⟨h54, _⟩ := hI.l66 (hall 66 (by decide))
  obtain ⟨r, M, e1, e2, e3, e4⟩ := hI.map (hall 0 (by decide))
  repeat refine nx rfl ?_
  obtain rfl := hI.ds
  refine AP rfl ⟨r, by rw [h54, e1], k2.trans hI.ext, Nat.le_trans k2.size e2, M, e3, fun op => ?_⟩
  cases hs : Be op with
  | none =>
   refine vlookup_none fun p hp e => ?_
   obtain ⟨q, hq, _, h2, _⟩ := (e4 p.1 p.2).1 hp
   have := ins_sty q hq
   rw [← h2, e, hs] at this
   cases this
  | some s =>
   obtain ⟨q, hq, hk⟩ := sty_ins hs
   have hv := ins_sty q hq
   rw [hk, hs] at hv
   have hv : Bn s = q.2.2 := Option.some.inj hv
   have hm : (op, Bn s) ∈ M := (e4 _ _).2 ⟨q, hq, hall _ (i_ops q hq).1, hk.symm, hv⟩
   exact vlookup_at (nodup_vint e3) hm
end Go.Proofs.YtfcgdbmoncnibaaGreatDoor
namespace Go.Proofs.YtfcgdbmoncnibaaGreatDoor
open Go.RowKit
set_option linter.unusedVariables false
structure GP (w : World) : Prop where
 gk : GK w
 pow : Lib.TabIs Tryz.prog w "internal/strconv.uint64pow10" .u64 Lib.pow10Tab
theorem pow_block {w : World} (h : Lib.TabIs Tryz.prog w "internal/strconv.uint64pow10" .u64 Lib.pow10Tab) : ∃ g, Tryz.prog.globalNamed "internal/strconv.uint64pow10" = some g ∧ g < 10 ∧ g < w.heap.size := by
 have hg : Tryz.prog.globalNamed "internal/strconv.uint64pow10" = some 7 := by kernel_rfl
 refine ⟨_, hg, by decide, ?_⟩
 unfold Lib.TabIs World.var? at h
 rw [hg] at h
 simp only [Option.bind_some] at h
 split at h
 ·rename_i heq; exact (Array.getElem?_eq_some_iff.1 heq).1
 ·cases h
theorem GP.keep {X : List Nat} {w w' : World} (h : GP w) (k : Keep X w w') (hX : ∀ x ∈ X, 10 ≤ x) : GP w' := by
 refine ⟨h.gk.keep k hX, ?_⟩
 obtain ⟨g, hg, h1, h2⟩ := pow_block h.pow
 have hp := h.pow
 unfold Lib.TabIs World.var? at hp ⊢
 rw [hg] at hp ⊢
 simp only [Option.bind_some] at hp ⊢
 rw [k.block g h2 (fun hx => by have := hX _ hx; omega)]
 exact hp
theorem GP.ext {w w' : World} (h : GP w) (k : Ext w w') : GP w' := h.keep k fun x hx => by cases hx
theorem ext_grow {w : World} {k : Nat} {os : Array Obj} : Ext w (Go.Sort.grow (w.drewN k) os) := by
 refine ⟨rfl, rfl, rfl, by simp [Go.Sort.grow, World.drewN], fun b hb _ => ?_, fun h => h.elim⟩
 simp only [Go.Sort.grow, World.drewN]
 rw [Array.getElem?_append_left hb]
theorem itoa_digs {n : Int} (h : 0 ≤ n) : Lib.itoa n = CL n := by
 unfold Lib.itoa CL
 rw [if_neg (by omega)]
 have : ∀ (m k : Nat), k ≤ m → Lib.decDigits k = digs k := by
  intro m
  induction m with
  | zero =>
   intro k hk
   rw [Lib.decDigits, dif_pos (by omega), CC (by omega)]
  | succ m ih =>
   intro k hk
   by_cases h1 : k < 10
   ·rw [Lib.decDigits, dif_pos h1, CC h1]
   ·rw [Lib.decDigits, dif_neg h1, digs_big (by omega), ih (k / 10) (by omega)]
 exact this _ _ (Nat.le_refl _)
theorem itoa_ok (w : World) (n : Int) (h0 : 0 ≤ n) (h1 : n ≤ 9999) (hG : GP w) : Fn Tryz.prog 154 [.int .i64 n] w fun v w' => v = AK (CL n) ∧ Ext w w' := by
 refine Calls.mono (Tryz.strconv_Itoa n (by omega) (by omega) w hG.pow) ?_
 rintro e w' ⟨rfl, k, os, rfl⟩
 rw [itoa_digs h0]
 exact ⟨rfl, ext_grow⟩
def unp : List PanicEntry := [{ v := .iface 186 (.agg #[]), recovered := false }]
theorem B0 (w : World) (b : Bool) : FnP Tryz.prog 76 [.bool b] w (fun v w' => v = .tuple #[] ∧ b = true ∧ w' = w) (fun ch w' => ch = unp ∧ b = false ∧ w' = w) := by
 refine Ar Tryz.func76 rfl Tryz.ntmps76 (Nat.le_of_ble_eq_true rfl) (by kernel_rfl) ?_
 repeat refine nx rfl ?_
 refine AA (AB rfl (BB rfl (AJ ?_)))
 cases b with
 | true =>
  repeat first | refine nx rfl ?_ | refine nf rfl ?_
  exact Az rfl ⟨rfl, rfl, rfl⟩
 | false =>
  repeat refine nx rfl ?_
  (refine AA (Af (by rfl) (by rfl) ?_) <;> refine DP (DM rfl ?_))
  repeat refine nx rfl ?_
  exact AY ⟨rfl, rfl, rfl⟩
theorem wname_ok (w : World) (s : List UInt8) (hG : GK w) : FnP Tryz.prog 83 [AK s] w (fun v w' => v = AK s ∧ Ba s = true ∧ w' = w) (fun ch w' => ch = unp ∧ Ba s = false ∧ w' = w) := by
 refine Ar Tryz.func83 rfl Tryz.ntmps83 (Nat.le_of_ble_eq_true rfl) (by kernel_rfl) ?_
 repeat refine nx rfl ?_
 refine AA (AC (AU rfl ?_))
 repeat refine nx rfl ?_
 refine AA (AU rfl ?_)
 refine AS (sigName_ok s w hG) rfl ?_
 rintro v w1 ⟨rfl, rfl⟩
 refine Ac (B0 w1 (Ba s)) rfl ?_ ?_
 rotate_left
 ·rintro ch w2 ⟨rfl, hb, rfl⟩
  repeat refine nx rfl ?_
  exact AY ⟨rfl, hb, rfl⟩
 rintro v w2 ⟨rfl, hb, rfl⟩
 repeat refine nx rfl ?_
 refine AA (AU rfl (AC (AU rfl ?_)))
 repeat refine nx rfl ?_
 exact AP rfl ⟨rfl, hb, rfl⟩
def numB (n : Int) : Bool := decide (0 ≤ n) && decide (n ≤ 9999)
theorem wnumber_ok (w : World) (n : Int) (hG : GP w) : FnP Tryz.prog 127 [.int .i64 n] w (fun v w' => v = AK (CL n) ∧ numB n = true ∧ Ext w w') (fun ch w' => ch = unp ∧ numB n = false ∧ w' = w) := by
 refine Ar Tryz.func127 rfl Tryz.ntmps127 (Nat.le_of_ble_eq_true rfl) (by kernel_rfl) ?_
 repeat refine nx rfl ?_
 refine AA (AC (AU rfl ?_))
 repeat refine nx rfl ?_
 by_cases h0 : 0 ≤ n
 ·by_cases h1 : n ≤ 9999
  ·refine AA (AH rfl (W_geqT rfl rfl (by omega) (AB rfl (AE rfl (AH rfl (AE rfl (DD rfl rfl (by omega) (AL rfl (AB rfl ?_)))))))))
   refine Ac (B0 w true) rfl ?_ ?_
   rotate_left
   ·rintro ch w2 ⟨_, hb, _⟩; cases hb
   rintro v w2 ⟨rfl, hb, rfl⟩
   repeat refine nx rfl ?_
   refine AA (AH rfl ?_)
   refine AS (itoa_ok w2 n h0 h1 hG) rfl ?_
   rintro v w3 ⟨rfl, k3⟩
   refine AC (AU rfl ?_)
   repeat refine nx rfl ?_
   exact AP rfl ⟨rfl, by simp [numB, h0, h1], k3⟩
  ·refine AA (AH rfl (W_geqT rfl rfl (by omega) (AB rfl (AE rfl (AH rfl (AE rfl (Db rfl rfl (by omega) (AL rfl (AB rfl ?_)))))))))
   refine Ac (B0 w false) rfl ?_ ?_
   ·rintro v w2 ⟨_, hb, _⟩; cases hb
   rintro ch w2 ⟨rfl, hb, rfl⟩
   repeat refine nx rfl ?_
   exact AY ⟨rfl, by simp [numB, h1], rfl⟩
 ·refine AA (AH rfl (W_geqF rfl rfl (by omega) (AB rfl (AI rfl (AI rfl (AN rfl (AB rfl ?_)))))))
  refine Ac (B0 w false) rfl ?_ ?_
  ·rintro v w2 ⟨_, hb, _⟩; cases hb
  rintro ch w2 ⟨rfl, hb, rfl⟩
  repeat refine nx rfl ?_
  exact AY ⟨rfl, by simp [numB, h0], rfl⟩
end Go.Proofs.YtfcgdbmoncnibaaGreatDoor
namespace Go.Proofs.YtfcgdbmoncnibaaGreatDoor
open Go.RowKit
set_option linter.unusedVariables false
def nodeC (s : Sty) (f : Fml) : Bool := decide (s.least ≤ f.args.length ∧ f.args.length ≤ s.most) && decide (0 ≤ f.val ∧ f.val ≤ (s.val : Int)) && decide (0 ≤ f.bound ∧ f.bound ≤ (s.bound : Int)) && (decide (f.op = 3) || f.name.isEmpty)
theorem check_ok (w : World) (s : Sty) (b o : Nat) (f : Fml) (a : Option Addr) (c : Nat) (hcl : Cells w b o (fcC f (.slice a f.args.length c))) : FnP Tryz.prog 123 [Bn s, .pointer (some ⟨b, o, none⟩)] w
  (fun v w' => v = .tuple #[] ∧ Ext w w' ∧ nodeC s f = true) (fun ch w' => ch = unp ∧ Ext w w' ∧ nodeC s f = false) := by
 refine Ar Tryz.func123 rfl Tryz.ntmps123 (Nat.le_of_ble_eq_true rfl) (by kernel_rfl) ?_
 repeat refine nx rfl ?_
 (refine AA ?_; refine Bh (L := CP s) rfl (fun w1 n1 => AJ ?_))
 have b1 := n1.blk
 have k1 := n1.keep
 repeat refine nx rfl ?_
 by_cases q1 : s.least ≤ f.args.length
 case neg =>
  refine B8 (.read 0 (.read 1 (.read 2 (.read 3 (.read 4 (.read 5 (.read 6 (.read 7 (.read 8 (.read 9 (.read 10 (.read 11 (.read 12 (.read 13 (.read 14 (.read 15 (.read 16 (.read 17 (.alt 18 .done .stop))))))))))))))))))) BA (by kernel_rfl) (by repeat (first | exact BZ | refine BK ?_)) (fun wd kd ed => ⟨Ext wd, ?_, ?_⟩)
  ·exact Ext.refl _
  have bd := b1.keep kd (by simp)
  have fa : ∀ W, Ext wd W → W.cell? ⟨b, o + 4, none⟩ = some (.slice a f.args.length c) := fun W e => ((k1.trans kd).trans e).cell (hcl 4 _ rfl) (by simp)
  have fb : ∀ W, Ext wd W → W.cell? ⟨b, o + 2, none⟩ = some (.int .i64 f.val) := fun W e => ((k1.trans kd).trans e).cell (hcl 2 _ rfl) (by simp)
  have fc : ∀ W, Ext wd W → W.cell? ⟨b, o + 3, none⟩ = some (.int .i64 f.bound) := fun W e => ((k1.trans kd).trans e).cell (hcl 3 _ rfl) (by simp)
  have g4 : ∀ W, Ext wd W → W.cell? ⟨w.heap.size, 0 + 4, none⟩ = some (.int .i64 (s.least : Int)) := fun W e => (bd.keep e (by simp)).cell rfl
  have g5 : ∀ W, Ext wd W → W.cell? ⟨w.heap.size, 0 + 5, none⟩ = some (.int .i64 (s.most : Int)) := fun W e => (bd.keep e (by simp)).cell rfl
  have g6 : ∀ W, Ext wd W → W.cell? ⟨w.heap.size, 0 + 6, none⟩ = some (.int .i64 (s.val : Int)) := fun W e => (bd.keep e (by simp)).cell rfl
  have g7 : ∀ W, Ext wd W → W.cell? ⟨w.heap.size, 0 + 7, none⟩ = some (.int .i64 (s.bound : Int)) := fun W e => (bd.keep e (by simp)).cell rfl
  refine D_R rfl rfl (fun W hW => AO rfl Z3) (D_R rfl rfl (fun W hW => AG rfl Z3) (D_R rfl rfl (fun W hW => AD rfl Z3) (D_R rfl rfl (fun W hW => AF rfl (fa W hW) Z3) (D_R rfl rfl (fun W hW => Ap rfl Z3) (D_R rfl rfl (fun W hW => AD rfl Z3) (D_R rfl rfl (fun W hW => AF rfl (g4 W hW) Z3) (D_geqF rfl rfl rfl rfl (by omega) (D_R rfl rfl (fun W hW => AB rfl Z3) (Ag rfl rfl rfl rfl (Ag rfl rfl rfl rfl (Ag rfl rfl rfl rfl (Ag rfl rfl rfl rfl (Ag rfl rfl rfl rfl (Ag rfl rfl rfl rfl (Ag rfl rfl rfl rfl (Ag rfl rfl rfl rfl (D_R rfl rfl (fun W hW => AN rfl (AB rfl Z3)) ?_)))))))))))))))))
  refine D_E rfl ?_
  refine Ac (B0 wd false) rfl ?_ ?_
  ·rintro v w2 ⟨_, hb, _⟩; cases hb
  rintro ch w2 ⟨rfl, hb, rfl⟩
  repeat refine nx rfl ?_
  exact AY ⟨rfl, k1.trans kd, by simp [nodeC, q1]⟩
 by_cases q2 : f.args.length ≤ s.most
 case neg =>
  refine B8 (.read 0 (.read 1 (.read 2 (.read 3 (.read 4 (.read 5 (.read 6 (.read 7 (.read 8 (.read 9 (.read 10 (.read 11 (.read 12 (.read 13 (.read 14 (.read 15 (.read 16 (.read 17 (.alt 18 .done .stop))))))))))))))))))) BA (by kernel_rfl) (by repeat (first | exact BZ | refine BK ?_)) (fun wd kd ed => ⟨Ext wd, ?_, ?_⟩)
  ·exact Ext.refl _
  have bd := b1.keep kd (by simp)
  have fa : ∀ W, Ext wd W → W.cell? ⟨b, o + 4, none⟩ = some (.slice a f.args.length c) := fun W e => ((k1.trans kd).trans e).cell (hcl 4 _ rfl) (by simp)
  have fb : ∀ W, Ext wd W → W.cell? ⟨b, o + 2, none⟩ = some (.int .i64 f.val) := fun W e => ((k1.trans kd).trans e).cell (hcl 2 _ rfl) (by simp)
  have fc : ∀ W, Ext wd W → W.cell? ⟨b, o + 3, none⟩ = some (.int .i64 f.bound) := fun W e => ((k1.trans kd).trans e).cell (hcl 3 _ rfl) (by simp)
  have g4 : ∀ W, Ext wd W → W.cell? ⟨w.heap.size, 0 + 4, none⟩ = some (.int .i64 (s.least : Int)) := fun W e => (bd.keep e (by simp)).cell rfl
  have g5 : ∀ W, Ext wd W → W.cell? ⟨w.heap.size, 0 + 5, none⟩ = some (.int .i64 (s.most : Int)) := fun W e => (bd.keep e (by simp)).cell rfl
  have g6 : ∀ W, Ext wd W → W.cell? ⟨w.heap.size, 0 + 6, none⟩ = some (.int .i64 (s.val : Int)) := fun W e => (bd.keep e (by simp)).cell rfl
  have g7 : ∀ W, Ext wd W → W.cell? ⟨w.heap.size, 0 + 7, none⟩ = some (.int .i64 (s.bound : Int)) := fun W e => (bd.keep e (by simp)).cell rfl
  refine D_R rfl rfl (fun W hW => AO rfl Z3) (D_R rfl rfl (fun W hW => AG rfl Z3) (D_R rfl rfl (fun W hW => AD rfl Z3) (D_R rfl rfl (fun W hW => AF rfl (fa W hW) Z3) (D_R rfl rfl (fun W hW => Ap rfl Z3) (D_R rfl rfl (fun W hW => AD rfl Z3) (D_R rfl rfl (fun W hW => AF rfl (g4 W hW) Z3) (D_geqT rfl rfl rfl rfl (by omega) (D_R rfl rfl (fun W hW => AB rfl Z3) (D_R rfl rfl (fun W hW => AE rfl (AO rfl Z3)) (D_R rfl rfl (fun W hW => AE rfl (AG rfl Z3)) (D_R rfl rfl (fun W hW => AE rfl (AD rfl Z3)) (D_R rfl rfl (fun W hW => AE rfl (AF rfl (fa W hW) Z3)) (D_R rfl rfl (fun W hW => AE rfl (Ap rfl Z3)) (D_R rfl rfl (fun W hW => AE rfl (AD rfl Z3)) (D_R rfl rfl (fun W hW => AE rfl (AF rfl (g5 W hW) Z3)) (D_leqF rfl rfl rfl rfl (by omega) (D_R rfl rfl (fun W hW => AL rfl (AB rfl Z3)) ?_)))))))))))))))))
  refine D_E rfl ?_
  refine Ac (B0 wd false) rfl ?_ ?_
  ·rintro v w2 ⟨_, hb, _⟩; cases hb
  rintro ch w2 ⟨rfl, hb, rfl⟩
  repeat refine nx rfl ?_
  exact AY ⟨rfl, k1.trans kd, by simp [nodeC, q2]⟩
 refine B8 (.read 0 (.read 1 (.read 2 (.read 3 (.read 4 (.read 5 (.read 6 (.read 7 (.read 8 (.read 9 (.read 10 (.read 11 (.read 12 (.read 13 (.read 14 (.read 15 (.read 16 (.read 17 (.alt 18 .done .stop))))))))))))))))))) BA (by kernel_rfl) (by repeat (first | exact BZ | refine BK ?_)) (fun wd kd ed => ⟨Ext wd, ?_, ?_⟩)
 ·exact Ext.refl _
 have bd := b1.keep kd (by simp)
 have fa : ∀ W, Ext wd W → W.cell? ⟨b, o + 4, none⟩ = some (.slice a f.args.length c) := fun W e => ((k1.trans kd).trans e).cell (hcl 4 _ rfl) (by simp)
 have fb : ∀ W, Ext wd W → W.cell? ⟨b, o + 2, none⟩ = some (.int .i64 f.val) := fun W e => ((k1.trans kd).trans e).cell (hcl 2 _ rfl) (by simp)
 have fc : ∀ W, Ext wd W → W.cell? ⟨b, o + 3, none⟩ = some (.int .i64 f.bound) := fun W e => ((k1.trans kd).trans e).cell (hcl 3 _ rfl) (by simp)
 have g4 : ∀ W, Ext wd W → W.cell? ⟨w.heap.size, 0 + 4, none⟩ = some (.int .i64 (s.least : Int)) := fun W e => (bd.keep e (by simp)).cell rfl
 have g5 : ∀ W, Ext wd W → W.cell? ⟨w.heap.size, 0 + 5, none⟩ = some (.int .i64 (s.most : Int)) := fun W e => (bd.keep e (by simp)).cell rfl
 have g6 : ∀ W, Ext wd W → W.cell? ⟨w.heap.size, 0 + 6, none⟩ = some (.int .i64 (s.val : Int)) := fun W e => (bd.keep e (by simp)).cell rfl
 have g7 : ∀ W, Ext wd W → W.cell? ⟨w.heap.size, 0 + 7, none⟩ = some (.int .i64 (s.bound : Int)) := fun W e => (bd.keep e (by simp)).cell rfl
 refine D_R rfl rfl (fun W hW => AO rfl Z3) (D_R rfl rfl (fun W hW => AG rfl Z3) (D_R rfl rfl (fun W hW => AD rfl Z3) (D_R rfl rfl (fun W hW => AF rfl (fa W hW) Z3) (D_R rfl rfl (fun W hW => Ap rfl Z3) (D_R rfl rfl (fun W hW => AD rfl Z3) (D_R rfl rfl (fun W hW => AF rfl (g4 W hW) Z3) (D_geqT rfl rfl rfl rfl (by omega) (D_R rfl rfl (fun W hW => AB rfl Z3) (D_R rfl rfl (fun W hW => AE rfl (AO rfl Z3)) (D_R rfl rfl (fun W hW => AE rfl (AG rfl Z3)) (D_R rfl rfl (fun W hW => AE rfl (AD rfl Z3)) (D_R rfl rfl (fun W hW => AE rfl (AF rfl (fa W hW) Z3)) (D_R rfl rfl (fun W hW => AE rfl (Ap rfl Z3)) (D_R rfl rfl (fun W hW => AE rfl (AD rfl Z3)) (D_R rfl rfl (fun W hW => AE rfl (AF rfl (g5 W hW) Z3)) (D_leqT rfl rfl rfl rfl (by omega) (D_R rfl rfl (fun W hW => AL rfl (AB rfl Z3)) ?_)))))))))))))))))
 refine D_E rfl ?_
 refine Ac (B0 wd true) rfl ?_ ?_
 rotate_left
 ·rintro ch w2 ⟨_, hb, _⟩; cases hb
 rintro v w2 ⟨rfl, hb, rfl⟩
 refine AJ ⟨Ext w2, fun _ e => e, Ext.refl _, ?_⟩
 refine Ay ?_
 repeat refine nx rfl ?_
 replace k1 := k1.trans kd
 clear fa fb fc g4 g5 g6 g7 kd ed b1
 have b1 := bd
 clear bd
 by_cases q3 : 0 ≤ f.val
 case neg =>
  refine B8 (.read 0 (.read 1 (.read 2 (.read 3 (.read 4 (.read 5 (.read 6 (.read 7 (.read 8 (.read 9 (.read 10 (.read 11 (.read 12 (.read 13 (.alt 14 .done .stop))))))))))))))) BA (by kernel_rfl) (by repeat (first | exact BZ | refine BK ?_)) (fun wd kd ed => ⟨Ext wd, ?_, ?_⟩)
  ·exact Ext.refl _
  have bd := b1.keep kd (by simp)
  have fa : ∀ W, Ext wd W → W.cell? ⟨b, o + 4, none⟩ = some (.slice a f.args.length c) := fun W e => ((k1.trans kd).trans e).cell (hcl 4 _ rfl) (by simp)
  have fb : ∀ W, Ext wd W → W.cell? ⟨b, o + 2, none⟩ = some (.int .i64 f.val) := fun W e => ((k1.trans kd).trans e).cell (hcl 2 _ rfl) (by simp)
  have fc : ∀ W, Ext wd W → W.cell? ⟨b, o + 3, none⟩ = some (.int .i64 f.bound) := fun W e => ((k1.trans kd).trans e).cell (hcl 3 _ rfl) (by simp)
  have g4 : ∀ W, Ext wd W → W.cell? ⟨w.heap.size, 0 + 4, none⟩ = some (.int .i64 (s.least : Int)) := fun W e => (bd.keep e (by simp)).cell rfl
  have g5 : ∀ W, Ext wd W → W.cell? ⟨w.heap.size, 0 + 5, none⟩ = some (.int .i64 (s.most : Int)) := fun W e => (bd.keep e (by simp)).cell rfl
  have g6 : ∀ W, Ext wd W → W.cell? ⟨w.heap.size, 0 + 6, none⟩ = some (.int .i64 (s.val : Int)) := fun W e => (bd.keep e (by simp)).cell rfl
  have g7 : ∀ W, Ext wd W → W.cell? ⟨w.heap.size, 0 + 7, none⟩ = some (.int .i64 (s.bound : Int)) := fun W e => (bd.keep e (by simp)).cell rfl
  refine D_R rfl rfl (fun W hW => AO rfl Z3) (D_R rfl rfl (fun W hW => AG rfl Z3) (D_R rfl rfl (fun W hW => AD rfl Z3) (D_R rfl rfl (fun W hW => AF rfl (fb W hW) Z3) (D_geqF rfl rfl rfl rfl (by omega) (D_R rfl rfl (fun W hW => AB rfl Z3) (Ag rfl rfl rfl rfl (Ag rfl rfl rfl rfl (Ag rfl rfl rfl rfl (Ag rfl rfl rfl rfl (Ag rfl rfl rfl rfl (Ag rfl rfl rfl rfl (Ag rfl rfl rfl rfl (D_R rfl rfl (fun W hW => AN rfl (AB rfl Z3)) ?_)))))))))))))
  refine D_E rfl ?_
  refine Ac (B0 wd false) rfl ?_ ?_
  ·rintro v w2 ⟨_, hb, _⟩; cases hb
  rintro ch w2 ⟨rfl, hb, rfl⟩
  repeat refine nx rfl ?_
  exact AY ⟨rfl, k1.trans kd, by simp [nodeC, q3]⟩
 by_cases q4 : f.val ≤ (s.val : Int)
 case neg =>
  refine B8 (.read 0 (.read 1 (.read 2 (.read 3 (.read 4 (.read 5 (.read 6 (.read 7 (.read 8 (.read 9 (.read 10 (.read 11 (.read 12 (.read 13 (.alt 14 .done .stop))))))))))))))) BA (by kernel_rfl) (by repeat (first | exact BZ | refine BK ?_)) (fun wd kd ed => ⟨Ext wd, ?_, ?_⟩)
  ·exact Ext.refl _
  have bd := b1.keep kd (by simp)
  have fa : ∀ W, Ext wd W → W.cell? ⟨b, o + 4, none⟩ = some (.slice a f.args.length c) := fun W e => ((k1.trans kd).trans e).cell (hcl 4 _ rfl) (by simp)
  have fb : ∀ W, Ext wd W → W.cell? ⟨b, o + 2, none⟩ = some (.int .i64 f.val) := fun W e => ((k1.trans kd).trans e).cell (hcl 2 _ rfl) (by simp)
  have fc : ∀ W, Ext wd W → W.cell? ⟨b, o + 3, none⟩ = some (.int .i64 f.bound) := fun W e => ((k1.trans kd).trans e).cell (hcl 3 _ rfl) (by simp)
  have g4 : ∀ W, Ext wd W → W.cell? ⟨w.heap.size, 0 + 4, none⟩ = some (.int .i64 (s.least : Int)) := fun W e => (bd.keep e (by simp)).cell rfl
  have g5 : ∀ W, Ext wd W → W.cell? ⟨w.heap.size, 0 + 5, none⟩ = some (.int .i64 (s.most : Int)) := fun W e => (bd.keep e (by simp)).cell rfl
  have g6 : ∀ W, Ext wd W → W.cell? ⟨w.heap.size, 0 + 6, none⟩ = some (.int .i64 (s.val : Int)) := fun W e => (bd.keep e (by simp)).cell rfl
  have g7 : ∀ W, Ext wd W → W.cell? ⟨w.heap.size, 0 + 7, none⟩ = some (.int .i64 (s.bound : Int)) := fun W e => (bd.keep e (by simp)).cell rfl
  refine D_R rfl rfl (fun W hW => AO rfl Z3) (D_R rfl rfl (fun W hW => AG rfl Z3) (D_R rfl rfl (fun W hW => AD rfl Z3) (D_R rfl rfl (fun W hW => AF rfl (fb W hW) Z3) (D_geqT rfl rfl rfl rfl (by omega) (D_R rfl rfl (fun W hW => AB rfl Z3) (D_R rfl rfl (fun W hW => AE rfl (AO rfl Z3)) (D_R rfl rfl (fun W hW => AE rfl (AG rfl Z3)) (D_R rfl rfl (fun W hW => AE rfl (AD rfl Z3)) (D_R rfl rfl (fun W hW => AE rfl (AF rfl (fb W hW) Z3)) (D_R rfl rfl (fun W hW => AE rfl (AD rfl Z3)) (D_R rfl rfl (fun W hW => AE rfl (AF rfl (g6 W hW) Z3)) (D_leqF rfl rfl rfl rfl (by omega) (D_R rfl rfl (fun W hW => AL rfl (AB rfl Z3)) ?_)))))))))))))
  refine D_E rfl ?_
  refine Ac (B0 wd false) rfl ?_ ?_
  ·rintro v w2 ⟨_, hb, _⟩; cases hb
  rintro ch w2 ⟨rfl, hb, rfl⟩
  repeat refine nx rfl ?_
  exact AY ⟨rfl, k1.trans kd, by simp [nodeC, q4]⟩
 refine B8 (.read 0 (.read 1 (.read 2 (.read 3 (.read 4 (.read 5 (.read 6 (.read 7 (.read 8 (.read 9 (.read 10 (.read 11 (.read 12 (.read 13 (.alt 14 .done .stop))))))))))))))) BA (by kernel_rfl) (by repeat (first | exact BZ | refine BK ?_)) (fun wd kd ed => ⟨Ext wd, ?_, ?_⟩)
 ·exact Ext.refl _
 have bd := b1.keep kd (by simp)
 have fa : ∀ W, Ext wd W → W.cell? ⟨b, o + 4, none⟩ = some (.slice a f.args.length c) := fun W e => ((k1.trans kd).trans e).cell (hcl 4 _ rfl) (by simp)
 have fb : ∀ W, Ext wd W → W.cell? ⟨b, o + 2, none⟩ = some (.int .i64 f.val) := fun W e => ((k1.trans kd).trans e).cell (hcl 2 _ rfl) (by simp)
 have fc : ∀ W, Ext wd W → W.cell? ⟨b, o + 3, none⟩ = some (.int .i64 f.bound) := fun W e => ((k1.trans kd).trans e).cell (hcl 3 _ rfl) (by simp)
 have g4 : ∀ W, Ext wd W → W.cell? ⟨w.heap.size, 0 + 4, none⟩ = some (.int .i64 (s.least : Int)) := fun W e => (bd.keep e (by simp)).cell rfl
 have g5 : ∀ W, Ext wd W → W.cell? ⟨w.heap.size, 0 + 5, none⟩ = some (.int .i64 (s.most : Int)) := fun W e => (bd.keep e (by simp)).cell rfl
 have g6 : ∀ W, Ext wd W → W.cell? ⟨w.heap.size, 0 + 6, none⟩ = some (.int .i64 (s.val : Int)) := fun W e => (bd.keep e (by simp)).cell rfl
 have g7 : ∀ W, Ext wd W → W.cell? ⟨w.heap.size, 0 + 7, none⟩ = some (.int .i64 (s.bound : Int)) := fun W e => (bd.keep e (by simp)).cell rfl
 refine D_R rfl rfl (fun W hW => AO rfl Z3) (D_R rfl rfl (fun W hW => AG rfl Z3) (D_R rfl rfl (fun W hW => AD rfl Z3) (D_R rfl rfl (fun W hW => AF rfl (fb W hW) Z3) (D_geqT rfl rfl rfl rfl (by omega) (D_R rfl rfl (fun W hW => AB rfl Z3) (D_R rfl rfl (fun W hW => AE rfl (AO rfl Z3)) (D_R rfl rfl (fun W hW => AE rfl (AG rfl Z3)) (D_R rfl rfl (fun W hW => AE rfl (AD rfl Z3)) (D_R rfl rfl (fun W hW => AE rfl (AF rfl (fb W hW) Z3)) (D_R rfl rfl (fun W hW => AE rfl (AD rfl Z3)) (D_R rfl rfl (fun W hW => AE rfl (AF rfl (g6 W hW) Z3)) (D_leqT rfl rfl rfl rfl (by omega) (D_R rfl rfl (fun W hW => AL rfl (AB rfl Z3)) ?_)))))))))))))
 refine D_E rfl ?_
 refine Ac (B0 wd true) rfl ?_ ?_
 rotate_left
 ·rintro ch w2 ⟨_, hb, _⟩; cases hb
 rintro v w2 ⟨rfl, hb, rfl⟩
 refine AJ ⟨Ext w2, fun _ e => e, Ext.refl _, ?_⟩
 refine Ay ?_
 repeat refine nx rfl ?_
 replace k1 := k1.trans kd
 clear fa fb fc g4 g5 g6 g7 kd ed b1
 have b1 := bd
 clear bd
 by_cases q5 : 0 ≤ f.bound
 case neg =>
  refine B8 (.read 0 (.read 1 (.read 2 (.read 3 (.read 4 (.read 5 (.read 6 (.read 7 (.read 8 (.read 9 (.read 10 (.read 11 (.read 12 (.read 13 (.alt 14 .done .stop))))))))))))))) BA (by kernel_rfl) (by repeat (first | exact BZ | refine BK ?_)) (fun wd kd ed => ⟨Ext wd, ?_, ?_⟩)
  ·exact Ext.refl _
  have bd := b1.keep kd (by simp)
  have fa : ∀ W, Ext wd W → W.cell? ⟨b, o + 4, none⟩ = some (.slice a f.args.length c) := fun W e => ((k1.trans kd).trans e).cell (hcl 4 _ rfl) (by simp)
  have fb : ∀ W, Ext wd W → W.cell? ⟨b, o + 2, none⟩ = some (.int .i64 f.val) := fun W e => ((k1.trans kd).trans e).cell (hcl 2 _ rfl) (by simp)
  have fc : ∀ W, Ext wd W → W.cell? ⟨b, o + 3, none⟩ = some (.int .i64 f.bound) := fun W e => ((k1.trans kd).trans e).cell (hcl 3 _ rfl) (by simp)
  have g4 : ∀ W, Ext wd W → W.cell? ⟨w.heap.size, 0 + 4, none⟩ = some (.int .i64 (s.least : Int)) := fun W e => (bd.keep e (by simp)).cell rfl
  have g5 : ∀ W, Ext wd W → W.cell? ⟨w.heap.size, 0 + 5, none⟩ = some (.int .i64 (s.most : Int)) := fun W e => (bd.keep e (by simp)).cell rfl
  have g6 : ∀ W, Ext wd W → W.cell? ⟨w.heap.size, 0 + 6, none⟩ = some (.int .i64 (s.val : Int)) := fun W e => (bd.keep e (by simp)).cell rfl
  have g7 : ∀ W, Ext wd W → W.cell? ⟨w.heap.size, 0 + 7, none⟩ = some (.int .i64 (s.bound : Int)) := fun W e => (bd.keep e (by simp)).cell rfl
  refine D_R rfl rfl (fun W hW => AO rfl Z3) (D_R rfl rfl (fun W hW => AG rfl Z3) (D_R rfl rfl (fun W hW => AD rfl Z3) (D_R rfl rfl (fun W hW => AF rfl (fc W hW) Z3) (D_geqF rfl rfl rfl rfl (by omega) (D_R rfl rfl (fun W hW => AB rfl Z3) (Ag rfl rfl rfl rfl (Ag rfl rfl rfl rfl (Ag rfl rfl rfl rfl (Ag rfl rfl rfl rfl (Ag rfl rfl rfl rfl (Ag rfl rfl rfl rfl (Ag rfl rfl rfl rfl (D_R rfl rfl (fun W hW => AN rfl (AB rfl Z3)) ?_)))))))))))))
  refine D_E rfl ?_
  refine Ac (B0 wd false) rfl ?_ ?_
  ·rintro v w2 ⟨_, hb, _⟩; cases hb
  rintro ch w2 ⟨rfl, hb, rfl⟩
  repeat refine nx rfl ?_
  exact AY ⟨rfl, k1.trans kd, by simp [nodeC, q5]⟩
 by_cases q6 : f.bound ≤ (s.bound : Int)
 case neg =>
  refine B8 (.read 0 (.read 1 (.read 2 (.read 3 (.read 4 (.read 5 (.read 6 (.read 7 (.read 8 (.read 9 (.read 10 (.read 11 (.read 12 (.read 13 (.alt 14 .done .stop))))))))))))))) BA (by kernel_rfl) (by repeat (first | exact BZ | refine BK ?_)) (fun wd kd ed => ⟨Ext wd, ?_, ?_⟩)
  ·exact Ext.refl _
  have bd := b1.keep kd (by simp)
  have fa : ∀ W, Ext wd W → W.cell? ⟨b, o + 4, none⟩ = some (.slice a f.args.length c) := fun W e => ((k1.trans kd).trans e).cell (hcl 4 _ rfl) (by simp)
  have fb : ∀ W, Ext wd W → W.cell? ⟨b, o + 2, none⟩ = some (.int .i64 f.val) := fun W e => ((k1.trans kd).trans e).cell (hcl 2 _ rfl) (by simp)
  have fc : ∀ W, Ext wd W → W.cell? ⟨b, o + 3, none⟩ = some (.int .i64 f.bound) := fun W e => ((k1.trans kd).trans e).cell (hcl 3 _ rfl) (by simp)
  have g4 : ∀ W, Ext wd W → W.cell? ⟨w.heap.size, 0 + 4, none⟩ = some (.int .i64 (s.least : Int)) := fun W e => (bd.keep e (by simp)).cell rfl
  have g5 : ∀ W, Ext wd W → W.cell? ⟨w.heap.size, 0 + 5, none⟩ = some (.int .i64 (s.most : Int)) := fun W e => (bd.keep e (by simp)).cell rfl
  have g6 : ∀ W, Ext wd W → W.cell? ⟨w.heap.size, 0 + 6, none⟩ = some (.int .i64 (s.val : Int)) := fun W e => (bd.keep e (by simp)).cell rfl
  have g7 : ∀ W, Ext wd W → W.cell? ⟨w.heap.size, 0 + 7, none⟩ = some (.int .i64 (s.bound : Int)) := fun W e => (bd.keep e (by simp)).cell rfl
  refine D_R rfl rfl (fun W hW => AO rfl Z3) (D_R rfl rfl (fun W hW => AG rfl Z3) (D_R rfl rfl (fun W hW => AD rfl Z3) (D_R rfl rfl (fun W hW => AF rfl (fc W hW) Z3) (D_geqT rfl rfl rfl rfl (by omega) (D_R rfl rfl (fun W hW => AB rfl Z3) (D_R rfl rfl (fun W hW => AE rfl (AO rfl Z3)) (D_R rfl rfl (fun W hW => AE rfl (AG rfl Z3)) (D_R rfl rfl (fun W hW => AE rfl (AD rfl Z3)) (D_R rfl rfl (fun W hW => AE rfl (AF rfl (fc W hW) Z3)) (D_R rfl rfl (fun W hW => AE rfl (AD rfl Z3)) (D_R rfl rfl (fun W hW => AE rfl (AF rfl (g7 W hW) Z3)) (D_leqF rfl rfl rfl rfl (by omega) (D_R rfl rfl (fun W hW => AL rfl (AB rfl Z3)) ?_)))))))))))))
  refine D_E rfl ?_
  refine Ac (B0 wd false) rfl ?_ ?_
  ·rintro v w2 ⟨_, hb, _⟩; cases hb
  rintro ch w2 ⟨rfl, hb, rfl⟩
  repeat refine nx rfl ?_
  exact AY ⟨rfl, k1.trans kd, by simp [nodeC, q6]⟩
 refine B8 (.read 0 (.read 1 (.read 2 (.read 3 (.read 4 (.read 5 (.read 6 (.read 7 (.read 8 (.read 9 (.read 10 (.read 11 (.read 12 (.read 13 (.alt 14 .done .stop))))))))))))))) BA (by kernel_rfl) (by repeat (first | exact BZ | refine BK ?_)) (fun wd kd ed => ⟨Ext wd, ?_, ?_⟩)
 ·exact Ext.refl _
 have bd := b1.keep kd (by simp)
 have fa : ∀ W, Ext wd W → W.cell? ⟨b, o + 4, none⟩ = some (.slice a f.args.length c) := fun W e => ((k1.trans kd).trans e).cell (hcl 4 _ rfl) (by simp)
 have fb : ∀ W, Ext wd W → W.cell? ⟨b, o + 2, none⟩ = some (.int .i64 f.val) := fun W e => ((k1.trans kd).trans e).cell (hcl 2 _ rfl) (by simp)
 have fc : ∀ W, Ext wd W → W.cell? ⟨b, o + 3, none⟩ = some (.int .i64 f.bound) := fun W e => ((k1.trans kd).trans e).cell (hcl 3 _ rfl) (by simp)
 have g4 : ∀ W, Ext wd W → W.cell? ⟨w.heap.size, 0 + 4, none⟩ = some (.int .i64 (s.least : Int)) := fun W e => (bd.keep e (by simp)).cell rfl
 have g5 : ∀ W, Ext wd W → W.cell? ⟨w.heap.size, 0 + 5, none⟩ = some (.int .i64 (s.most : Int)) := fun W e => (bd.keep e (by simp)).cell rfl
 have g6 : ∀ W, Ext wd W → W.cell? ⟨w.heap.size, 0 + 6, none⟩ = some (.int .i64 (s.val : Int)) := fun W e => (bd.keep e (by simp)).cell rfl
 have g7 : ∀ W, Ext wd W → W.cell? ⟨w.heap.size, 0 + 7, none⟩ = some (.int .i64 (s.bound : Int)) := fun W e => (bd.keep e (by simp)).cell rfl
 refine D_R rfl rfl (fun W hW => AO rfl Z3) (D_R rfl rfl (fun W hW => AG rfl Z3) (D_R rfl rfl (fun W hW => AD rfl Z3) (D_R rfl rfl (fun W hW => AF rfl (fc W hW) Z3) (D_geqT rfl rfl rfl rfl (by omega) (D_R rfl rfl (fun W hW => AB rfl Z3) (D_R rfl rfl (fun W hW => AE rfl (AO rfl Z3)) (D_R rfl rfl (fun W hW => AE rfl (AG rfl Z3)) (D_R rfl rfl (fun W hW => AE rfl (AD rfl Z3)) (D_R rfl rfl (fun W hW => AE rfl (AF rfl (fc W hW) Z3)) (D_R rfl rfl (fun W hW => AE rfl (AD rfl Z3)) (D_R rfl rfl (fun W hW => AE rfl (AF rfl (g7 W hW) Z3)) (D_leqT rfl rfl rfl rfl (by omega) (D_R rfl rfl (fun W hW => AL rfl (AB rfl Z3)) ?_)))))))))))))
 refine D_E rfl ?_
 refine Ac (B0 wd true) rfl ?_ ?_
 rotate_left
 ·rintro ch w2 ⟨_, hb, _⟩; cases hb
 rintro v w2 ⟨rfl, hb, rfl⟩
 refine AJ ⟨Ext w2, fun _ e => e, Ext.refl _, ?_⟩
 refine Ay ?_
 repeat refine nx rfl ?_
 replace k1 := k1.trans kd
 clear fa fb fc g4 g5 g6 g7 kd ed b1
 have b1 := bd
 clear bd
 have fo := k1.cell (hcl 0 _ rfl) (by simp)
 have fn := k1.cell (hcl 1 _ rfl) (by simp)
 by_cases q7 : f.op = 3
 ·(refine AA (AO rfl (AG rfl (AD rfl (AF rfl (by assumption) ?_)))) <;> refine At rfl rfl (by omega) (AB rfl (AI rfl (AI rfl (AI rfl (AI rfl (AI rfl (AL rfl (AB rfl ?_)))))))))
  refine Ac (B0 _ true) rfl ?_ ?_
  rotate_left
  ·rintro ch w2 ⟨_, hb, _⟩; cases hb
  rintro v w2 ⟨rfl, hb, rfl⟩
  repeat refine nx rfl ?_
  exact Az rfl ⟨rfl, k1, by simp [nodeC, q1, q2, q3, q4, q5, q6, q7]⟩
 by_cases q8 : f.name = []
 ·(refine AA (AO rfl (AG rfl (AD rfl (AF rfl (by assumption) ?_)))) <;> refine AQ rfl rfl (by omega) (AB rfl (AE rfl (AO rfl (AE rfl (AG rfl (AE rfl (AD rfl (AE rfl (AF rfl (by assumption) ?_))))))))) <;> (refine AE rfl ?_; refine CB rfl rfl (fun hc => ?_) (fun hc => ?_)) <;> refine AN rfl (AB rfl ?_))
  case refine_2 => exact absurd q8 (by assumption)
  refine Ac (B0 _ true) rfl ?_ ?_
  rotate_left
  ·rintro ch w2 ⟨_, hb, _⟩; cases hb
  rintro v w2 ⟨rfl, hb, rfl⟩
  repeat refine nx rfl ?_
  exact Az rfl ⟨rfl, k1, by simp [nodeC, q1, q2, q3, q4, q5, q6, q8]⟩
 ·(refine AA (AO rfl (AG rfl (AD rfl (AF rfl (by assumption) ?_)))) <;> refine AQ rfl rfl (by omega) (AB rfl (AE rfl (AO rfl (AE rfl (AG rfl (AE rfl (AD rfl (AE rfl (AF rfl (by assumption) ?_))))))))) <;> (refine AE rfl ?_; refine CB rfl rfl (fun hc => ?_) (fun hc => ?_)) <;> refine AN rfl (AB rfl ?_))
  case refine_1 => exact absurd (by assumption) q8
  refine Ac (B0 _ false) rfl ?_ ?_
  ·rintro v w2 ⟨_, hb, _⟩; cases hb
  rintro ch w2 ⟨rfl, hb, rfl⟩
  repeat refine nx rfl ?_
  exact AY ⟨rfl, k1, by simp [nodeC, q7, q8]⟩
end Go.Proofs.YtfcgdbmoncnibaaGreatDoor
namespace Go.Proofs.YtfcgdbmoncnibaaGreatDoor
open Go.RowKit
set_option linter.unusedVariables false
theorem numT_len {n : Int} (h : n ≤ 9999) : (CL n).length ≤ 4 := digs_len (by omega)
theorem numB_of {n : Int} (h0 : 0 ≤ n) (h1 : n ≤ 9999) : numB n = true := by simp [numB, h0, h1]
theorem signOf_ok (w : World) (s : Sty) (b o : Nat) (f : Fml) (av : Value) (hcl : Cells w b o (fcC f av)) (hs : Be f.op = some s) (hok : nodeC s f = true) (hG : GP w) :
  FnP Tryz.prog 124 [Bn s, .pointer (some ⟨b, o, none⟩)] w (fun v w' => v = AK (sgT f.op f.name f.val f.bound) ∧ Ext w w' ∧ (f.op = 3 → Ba f.name = true)) (fun ch w' => ch = unp ∧ Ext w w' ∧ f.op = 3 ∧ Ba f.name = false) := by
 have hsg : s.sign.length ≤ 5 := by
  rcases op_cases hs with h | h | h | h | h | h | h | h | h | h | h | h | h | h | h | h | h | h | h <;> rw [h] at hs <;> simp [Be, styL, List.lookup] at hs <;> subst hs <;> decide
 have esd : Bo f.op = s := by unfold Bo; rw [hs]; rfl
 simp only [nodeC, Bool.and_eq_true, decide_eq_true_eq] at hok
 obtain ⟨⟨⟨_, h1, h2⟩, h3, h4⟩, _⟩ := hok
 refine Ar Tryz.func124 rfl Tryz.ntmps124 (Nat.le_of_ble_eq_true rfl) (by kernel_rfl) ?_
 repeat refine nx rfl ?_
 (refine AA ?_; refine Bh (L := CP s) rfl (fun w1 n1 => ?_))
 have b1 := n1.blk
 have k1 := n1.keep
 have fo := k1.cell (hcl 0 _ rfl) (by simp)
 refine AC (AU rfl ?_)
 repeat refine nx rfl ?_
 (refine AA (AO rfl (AG rfl (AD rfl (AF rfl (by assumption) ?_)))))
 repeat refine nx rfl ?_
 by_cases o3 : f.op = 3
 ·have hs3 := hs
  rw [o3] at hs3
  simp [Be, styL, List.lookup] at hs3
  have hu : s.usual = 1 := by rw [← hs3]
  have hv : s.val = 9999 := by rw [← hs3]
  have hg : s.sign = [61] := by rw [← hs3]
  refine AA (At rfl rfl (by omega) (AC (AB rfl ?_)))
  repeat refine nx rfl ?_
  by_cases hv1 : f.val = 1
  ·refine B8 (.read 0 (.read 1 (.read 2 (.read 3 (.read 4 (.read 5 (.read 6 .done))))))) BA (by kernel_rfl) (by repeat (first | exact BZ | refine BK ?_ | refine Bz ?_)) (fun wd kd ed => ⟨Ext wd, ?_, ?_⟩)
   ·exact Ext.refl _
   have bd := b1.keep kd (by simp)
   have fn : ∀ W, Ext wd W → W.cell? ⟨b, o + 1, none⟩ = some (AK f.name) := fun W e => ((k1.trans kd).trans e).cell (hcl 1 _ rfl) (by simp)
   have fv : ∀ W, Ext wd W → W.cell? ⟨b, o + 2, none⟩ = some (.int .i64 f.val) := fun W e => ((k1.trans kd).trans e).cell (hcl 2 _ rfl) (by simp)
   have fb : ∀ W, Ext wd W → W.cell? ⟨b, o + 3, none⟩ = some (.int .i64 f.bound) := fun W e => ((k1.trans kd).trans e).cell (hcl 3 _ rfl) (by simp)
   have g0 : ∀ W, Ext wd W → W.cell? ⟨w.heap.size, 0 + 0, none⟩ = some (AK s.sign) := fun W e => (bd.keep e (by simp)).cell rfl
   have g8 : ∀ W, Ext wd W → W.cell? ⟨w.heap.size, 0 + 8, none⟩ = some (.int .i64 (s.usual : Int)) := fun W e => (bd.keep e (by simp)).cell rfl
   refine D_R rfl rfl (fun W hW => AO rfl Z3) (D_R rfl rfl (fun W hW => AG rfl Z3) (D_R rfl rfl (fun W hW => AD rfl Z3) (D_R rfl rfl (fun W hW => AF rfl (fv W hW) Z3) (D_R rfl rfl (fun W hW => AD rfl Z3) (D_R rfl rfl (fun W hW => AF rfl (g8 W hW) Z3) (D_eqlT rfl rfl rfl rfl (by omega) (Ay ?_)))))))
   repeat refine nx rfl ?_
   have fn1 := fn _ (Ext.refl _)
   refine AA (AO rfl (AG rfl (AD rfl (AF rfl (by assumption) ?_))))
   refine Ac (wname_ok _ f.name (hG.gk.ext (k1.trans kd))) rfl ?_ ?_
   rotate_left
   ·rintro ch w2 ⟨rfl, hb, rfl⟩
    repeat refine nx rfl ?_
    exact AY ⟨rfl, k1.trans kd, o3, hb⟩
   rintro v w2 ⟨rfl, hb, rfl⟩
   refine AC (AU rfl ?_)
   repeat refine nx rfl ?_
   have e : sgT f.op f.name f.val f.bound = f.name := by simp [sgT, o3, hv1]
   exact AP rfl ⟨by rw [e]; rfl, k1.trans kd, fun _ => hb⟩
  ·refine B8 (.read 0 (.read 1 (.read 2 (.read 3 (.read 4 (.read 5 (.read 6 .done))))))) BA (by kernel_rfl) (by repeat (first | exact BZ | refine BK ?_ | refine Bz ?_)) (fun wd kd ed => ⟨Ext wd, ?_, ?_⟩)
   ·exact Ext.refl _
   have bd := b1.keep kd (by simp)
   have fn : ∀ W, Ext wd W → W.cell? ⟨b, o + 1, none⟩ = some (AK f.name) := fun W e => ((k1.trans kd).trans e).cell (hcl 1 _ rfl) (by simp)
   have fv : ∀ W, Ext wd W → W.cell? ⟨b, o + 2, none⟩ = some (.int .i64 f.val) := fun W e => ((k1.trans kd).trans e).cell (hcl 2 _ rfl) (by simp)
   have fb : ∀ W, Ext wd W → W.cell? ⟨b, o + 3, none⟩ = some (.int .i64 f.bound) := fun W e => ((k1.trans kd).trans e).cell (hcl 3 _ rfl) (by simp)
   have g0 : ∀ W, Ext wd W → W.cell? ⟨w.heap.size, 0 + 0, none⟩ = some (AK s.sign) := fun W e => (bd.keep e (by simp)).cell rfl
   have g8 : ∀ W, Ext wd W → W.cell? ⟨w.heap.size, 0 + 8, none⟩ = some (.int .i64 (s.usual : Int)) := fun W e => (bd.keep e (by simp)).cell rfl
   refine D_R rfl rfl (fun W hW => AO rfl Z3) (D_R rfl rfl (fun W hW => AG rfl Z3) (D_R rfl rfl (fun W hW => AD rfl Z3) (D_R rfl rfl (fun W hW => AF rfl (fv W hW) Z3) (D_R rfl rfl (fun W hW => AD rfl Z3) (D_R rfl rfl (fun W hW => AF rfl (g8 W hW) Z3) (D_eqlF rfl rfl rfl rfl (by omega) (Ay ?_)))))))
   repeat first | refine nx rfl ?_ | refine nf rfl ?_
   replace k1 := k1.trans kd
   replace b1 := bd
   clear fn fv fb g0 g8 bd kd ed
   refine B8 (.read 0 (.read 1 (.read 2 (.read 3 (.read 5 (.read 6 (.read 8 (.read 9 (.read 10 (.read 11 (.alt 4 (.read 7 (.alt 12 (.read 13 (.read 14 .done)) .stop)) .stop))))))))))) BA (by kernel_rfl) (by repeat (first | exact BZ | refine BK ?_ | refine Bz ?_)) (fun wd kd ed => ⟨Ext wd, ?_, ?_⟩)
   ·exact Ext.refl _
   have bd := b1.keep kd (by simp)
   have fn : ∀ W, Ext wd W → W.cell? ⟨b, o + 1, none⟩ = some (AK f.name) := fun W e => ((k1.trans kd).trans e).cell (hcl 1 _ rfl) (by simp)
   have fv : ∀ W, Ext wd W → W.cell? ⟨b, o + 2, none⟩ = some (.int .i64 f.val) := fun W e => ((k1.trans kd).trans e).cell (hcl 2 _ rfl) (by simp)
   have fb : ∀ W, Ext wd W → W.cell? ⟨b, o + 3, none⟩ = some (.int .i64 f.bound) := fun W e => ((k1.trans kd).trans e).cell (hcl 3 _ rfl) (by simp)
   have g0 : ∀ W, Ext wd W → W.cell? ⟨w.heap.size, 0 + 0, none⟩ = some (AK s.sign) := fun W e => (bd.keep e (by simp)).cell rfl
   have g8 : ∀ W, Ext wd W → W.cell? ⟨w.heap.size, 0 + 8, none⟩ = some (.int .i64 (s.usual : Int)) := fun W e => (bd.keep e (by simp)).cell rfl
   refine D_R rfl rfl (fun W hW => AO rfl Z3) (D_R rfl rfl (fun W hW => AG rfl Z3) (D_R rfl rfl (fun W hW => AD rfl Z3) (D_R rfl rfl (fun W hW => AF rfl (fn W hW) Z3) (D_R rfl rfl (fun W hW => AD rfl Z3) (D_R rfl rfl (fun W hW => AF rfl (g0 W hW) Z3) (D_R rfl rfl (fun W hW => AO rfl Z3) (D_R rfl rfl (fun W hW => AG rfl Z3) (D_R rfl rfl (fun W hW => AD rfl Z3) (D_R rfl rfl (fun W hW => AF rfl (fv W hW) Z3) ?_)))))))))
   refine D_E rfl ?_
   refine Ac (wname_ok wd f.name (hG.gk.ext (k1.trans kd))) rfl ?_ ?_
   rotate_left
   ·rintro ch w2 ⟨rfl, hb, rfl⟩
    repeat refine nx rfl ?_
    exact AY ⟨rfl, k1.trans kd, o3, hb⟩
   rintro v w2 ⟨rfl, hb, rfl⟩
   have hnl := (BW hb).2.1
   refine AJ ⟨Ext w2, fun _ e => e, Ext.refl _, ?_⟩
   (apply D_R rfl rfl; (intro W hW; (refine W_sadd rfl rfl (by (try simp); omega) ?_); exact AJ ⟨rfl, rfl, rfl⟩))
   refine D_E rfl ?_
   refine Ac (wnumber_ok w2 f.val (hG.ext (k1.trans kd))) rfl ?_ ?_
   rotate_left
   ·rintro ch w3 ⟨rfl, hb2, rfl⟩
    rw [numB_of h1 (by omega)] at hb2; cases hb2
   rintro v w3 ⟨rfl, _, k3⟩
   have hnn := numT_len (n := f.val) (by omega)
   refine AJ ⟨Ext w3, fun _ e => k3.trans e, Ext.refl _, ?_⟩
   (apply D_R rfl rfl; (intro W hW; (refine W_sadd rfl rfl (by (try simp); omega) ?_); exact AJ ⟨rfl, rfl, rfl⟩))
   refine D_R rfl rfl (fun W hW => AC (AU rfl Z3)) (Ay ?_)
   repeat refine nx rfl ?_
   have e : sgT f.op f.name f.val f.bound = f.name ++ s.sign ++ CL f.val := by simp [sgT, o3, hv1, hg]
   exact AP rfl ⟨by rw [e]; rfl, (k1.trans kd).trans k3, fun _ => hb⟩
 by_cases o13 : f.op = 13 ∨ f.op = 14
 ·have hbd : s.bound = 9999 := by
   rcases o13 with h | h <;> rw [h] at hs <;> simp [Be, styL, List.lookup] at hs <;> rw [← hs]
  have fin8 : sgT f.op f.name f.val f.bound = s.sign ++ CL f.bound ++ [93, 32] := by simp [sgT, o3, o13, esd]
  refine AA (AQ rfl rfl (by omega) (AC (AB rfl ?_)))
  repeat first | refine nx rfl ?_ | refine nf rfl ?_
  rcases o13 with h13 | h14
  ·refine AA (At rfl rfl (by omega) (AC (AB rfl ?_)))
   repeat refine nx rfl ?_
   refine B8 (.read 0 (.read 1 (.read 2 (.read 3 (.read 4 (.read 5 (.alt 6 (.read 7 (.read 8 (.read 9 .done))) .stop))))))) BA (by kernel_rfl) (by repeat (first | exact BZ | refine BK ?_ | refine Bz ?_)) (fun wd kd ed => ⟨Ext wd, ?_, ?_⟩)
   ·exact Ext.refl _
   have bd := b1.keep kd (by simp)
   have fn : ∀ W, Ext wd W → W.cell? ⟨b, o + 1, none⟩ = some (AK f.name) := fun W e => ((k1.trans kd).trans e).cell (hcl 1 _ rfl) (by simp)
   have fv : ∀ W, Ext wd W → W.cell? ⟨b, o + 2, none⟩ = some (.int .i64 f.val) := fun W e => ((k1.trans kd).trans e).cell (hcl 2 _ rfl) (by simp)
   have fb : ∀ W, Ext wd W → W.cell? ⟨b, o + 3, none⟩ = some (.int .i64 f.bound) := fun W e => ((k1.trans kd).trans e).cell (hcl 3 _ rfl) (by simp)
   have g0 : ∀ W, Ext wd W → W.cell? ⟨w.heap.size, 0 + 0, none⟩ = some (AK s.sign) := fun W e => (bd.keep e (by simp)).cell rfl
   have g8 : ∀ W, Ext wd W → W.cell? ⟨w.heap.size, 0 + 8, none⟩ = some (.int .i64 (s.usual : Int)) := fun W e => (bd.keep e (by simp)).cell rfl
   refine D_R rfl rfl (fun W hW => AD rfl Z3) (D_R rfl rfl (fun W hW => AF rfl (g0 W hW) Z3) (D_R rfl rfl (fun W hW => AO rfl Z3) (D_R rfl rfl (fun W hW => AG rfl Z3) (D_R rfl rfl (fun W hW => AD rfl Z3) (D_R rfl rfl (fun W hW => AF rfl (fb W hW) Z3) ?_)))))
   refine D_E rfl ?_
   refine Ac (wnumber_ok wd f.bound (hG.ext (k1.trans kd))) rfl ?_ ?_
   rotate_left
   ·rintro ch w3 ⟨rfl, hb2, rfl⟩
    rw [numB_of h3 (by omega)] at hb2; cases hb2
   rintro v w3 ⟨rfl, _, k3⟩
   have hnn := numT_len (n := f.bound) (by omega)
   refine AJ ⟨Ext w3, fun _ e => k3.trans e, Ext.refl _, ?_⟩
   (apply D_R rfl rfl; (intro W hW; (refine W_sadd rfl rfl (by (try simp); omega) ?_); exact AJ ⟨rfl, rfl, rfl⟩))
   (apply D_R rfl rfl; (intro W hW; (refine W_sadd rfl rfl (by (try simp); omega) ?_); exact AJ ⟨rfl, rfl, rfl⟩))
   refine D_R rfl rfl (fun W hW => AC (AU rfl Z3)) (Ay ?_)
   repeat refine nx rfl ?_
   exact AP rfl ⟨by rw [fin8]; rfl, (k1.trans kd).trans k3, fun h => absurd h o3⟩
  ·refine AA (AQ rfl rfl (by omega) (AC (AB rfl ?_)))
   repeat first | refine nx rfl ?_ | refine nf rfl ?_
   refine AA (At rfl rfl (by omega) (AC (AB rfl ?_)))
   repeat refine nx rfl ?_
   refine B8 (.read 0 (.read 1 (.read 2 (.read 3 (.read 4 (.read 5 (.alt 6 (.read 7 (.read 8 (.read 9 .done))) .stop))))))) BA (by kernel_rfl) (by repeat (first | exact BZ | refine BK ?_ | refine Bz ?_)) (fun wd kd ed => ⟨Ext wd, ?_, ?_⟩)
   ·exact Ext.refl _
   have bd := b1.keep kd (by simp)
   have fn : ∀ W, Ext wd W → W.cell? ⟨b, o + 1, none⟩ = some (AK f.name) := fun W e => ((k1.trans kd).trans e).cell (hcl 1 _ rfl) (by simp)
   have fv : ∀ W, Ext wd W → W.cell? ⟨b, o + 2, none⟩ = some (.int .i64 f.val) := fun W e => ((k1.trans kd).trans e).cell (hcl 2 _ rfl) (by simp)
   have fb : ∀ W, Ext wd W → W.cell? ⟨b, o + 3, none⟩ = some (.int .i64 f.bound) := fun W e => ((k1.trans kd).trans e).cell (hcl 3 _ rfl) (by simp)
   have g0 : ∀ W, Ext wd W → W.cell? ⟨w.heap.size, 0 + 0, none⟩ = some (AK s.sign) := fun W e => (bd.keep e (by simp)).cell rfl
   have g8 : ∀ W, Ext wd W → W.cell? ⟨w.heap.size, 0 + 8, none⟩ = some (.int .i64 (s.usual : Int)) := fun W e => (bd.keep e (by simp)).cell rfl
   refine D_R rfl rfl (fun W hW => AD rfl Z3) (D_R rfl rfl (fun W hW => AF rfl (g0 W hW) Z3) (D_R rfl rfl (fun W hW => AO rfl Z3) (D_R rfl rfl (fun W hW => AG rfl Z3) (D_R rfl rfl (fun W hW => AD rfl Z3) (D_R rfl rfl (fun W hW => AF rfl (fb W hW) Z3) ?_)))))
   refine D_E rfl ?_
   refine Ac (wnumber_ok wd f.bound (hG.ext (k1.trans kd))) rfl ?_ ?_
   rotate_left
   ·rintro ch w3 ⟨rfl, hb2, rfl⟩
    rw [numB_of h3 (by omega)] at hb2; cases hb2
   rintro v w3 ⟨rfl, _, k3⟩
   have hnn := numT_len (n := f.bound) (by omega)
   refine AJ ⟨Ext w3, fun _ e => k3.trans e, Ext.refl _, ?_⟩
   (apply D_R rfl rfl; (intro W hW; (refine W_sadd rfl rfl (by (try simp); omega) ?_); exact AJ ⟨rfl, rfl, rfl⟩))
   (apply D_R rfl rfl; (intro W hW; (refine W_sadd rfl rfl (by (try simp); omega) ?_); exact AJ ⟨rfl, rfl, rfl⟩))
   refine D_R rfl rfl (fun W hW => AC (AU rfl Z3)) (Ay ?_)
   repeat refine nx rfl ?_
   exact AP rfl ⟨by rw [fin8]; rfl, (k1.trans kd).trans k3, fun h => absurd h o3⟩
 by_cases o15 : f.op = 15
 ·have hs15 := hs
  rw [o15] at hs15
  simp [Be, styL, List.lookup] at hs15
  have hu : s.usual = 0 := by rw [← hs15]
  have hg : s.sign = [89, 32] := by rw [← hs15]
  refine AA (AQ rfl rfl (by omega) (AC (AB rfl ?_)))
  repeat first | refine nx rfl ?_ | refine nf rfl ?_
  refine AA (AQ rfl rfl (by omega) (AC (AB rfl ?_)))
  repeat first | refine nx rfl ?_ | refine nf rfl ?_
  refine AA (AQ rfl rfl (by omega) (AC (AB rfl ?_)))
  repeat first | refine nx rfl ?_ | refine nf rfl ?_
  refine AA (At rfl rfl (by omega) (AC (AB rfl ?_)))
  repeat refine nx rfl ?_
  by_cases hv0 : f.val = 0
  ·refine B8 (.read 0 (.read 1 (.read 2 (.read 3 (.read 4 (.read 5 (.read 6 .done))))))) BA (by kernel_rfl) (by repeat (first | exact BZ | refine BK ?_ | refine Bz ?_)) (fun wd kd ed => ⟨Ext wd, ?_, ?_⟩)
   ·exact Ext.refl _
   have bd := b1.keep kd (by simp)
   have fn : ∀ W, Ext wd W → W.cell? ⟨b, o + 1, none⟩ = some (AK f.name) := fun W e => ((k1.trans kd).trans e).cell (hcl 1 _ rfl) (by simp)
   have fv : ∀ W, Ext wd W → W.cell? ⟨b, o + 2, none⟩ = some (.int .i64 f.val) := fun W e => ((k1.trans kd).trans e).cell (hcl 2 _ rfl) (by simp)
   have fb : ∀ W, Ext wd W → W.cell? ⟨b, o + 3, none⟩ = some (.int .i64 f.bound) := fun W e => ((k1.trans kd).trans e).cell (hcl 3 _ rfl) (by simp)
   have g0 : ∀ W, Ext wd W → W.cell? ⟨w.heap.size, 0 + 0, none⟩ = some (AK s.sign) := fun W e => (bd.keep e (by simp)).cell rfl
   have g8 : ∀ W, Ext wd W → W.cell? ⟨w.heap.size, 0 + 8, none⟩ = some (.int .i64 (s.usual : Int)) := fun W e => (bd.keep e (by simp)).cell rfl
   refine D_R rfl rfl (fun W hW => AO rfl Z3) (D_R rfl rfl (fun W hW => AG rfl Z3) (D_R rfl rfl (fun W hW => AD rfl Z3) (D_R rfl rfl (fun W hW => AF rfl (fv W hW) Z3) (D_R rfl rfl (fun W hW => AD rfl Z3) (D_R rfl rfl (fun W hW => AF rfl (g8 W hW) Z3) (D_neqF rfl rfl rfl rfl (by omega) (Ay ?_)))))))
   repeat first | refine nx rfl ?_ | refine nf rfl ?_
   have g1 := g0 _ (Ext.refl _)
   (refine AA (AD rfl (AF rfl (Blk.cell (by assumption) (by rfl)) ?_)) <;> refine AC (AU rfl ?_))
   repeat refine nx rfl ?_
   have e : sgT f.op f.name f.val f.bound = s.sign := by simp [sgT, o15, hv0, hg]
   exact AP rfl ⟨by rw [e]; rfl, k1.trans kd, fun h => absurd h o3⟩
  ·refine B8 (.read 0 (.read 1 (.read 2 (.read 3 (.read 4 (.read 5 (.read 6 .done))))))) BA (by kernel_rfl) (by repeat (first | exact BZ | refine BK ?_ | refine Bz ?_)) (fun wd kd ed => ⟨Ext wd, ?_, ?_⟩)
   ·exact Ext.refl _
   have bd := b1.keep kd (by simp)
   have fn : ∀ W, Ext wd W → W.cell? ⟨b, o + 1, none⟩ = some (AK f.name) := fun W e => ((k1.trans kd).trans e).cell (hcl 1 _ rfl) (by simp)
   have fv : ∀ W, Ext wd W → W.cell? ⟨b, o + 2, none⟩ = some (.int .i64 f.val) := fun W e => ((k1.trans kd).trans e).cell (hcl 2 _ rfl) (by simp)
   have fb : ∀ W, Ext wd W → W.cell? ⟨b, o + 3, none⟩ = some (.int .i64 f.bound) := fun W e => ((k1.trans kd).trans e).cell (hcl 3 _ rfl) (by simp)
   have g0 : ∀ W, Ext wd W → W.cell? ⟨w.heap.size, 0 + 0, none⟩ = some (AK s.sign) := fun W e => (bd.keep e (by simp)).cell rfl
   have g8 : ∀ W, Ext wd W → W.cell? ⟨w.heap.size, 0 + 8, none⟩ = some (.int .i64 (s.usual : Int)) := fun W e => (bd.keep e (by simp)).cell rfl
   refine D_R rfl rfl (fun W hW => AO rfl Z3) (D_R rfl rfl (fun W hW => AG rfl Z3) (D_R rfl rfl (fun W hW => AD rfl Z3) (D_R rfl rfl (fun W hW => AF rfl (fv W hW) Z3) (D_R rfl rfl (fun W hW => AD rfl Z3) (D_R rfl rfl (fun W hW => AF rfl (g8 W hW) Z3) (D_neqT rfl rfl rfl rfl (by omega) (Ay ?_)))))))
   repeat refine nx rfl ?_
   refine AA (AC (AU rfl ?_))
   repeat refine nx rfl ?_
   have e : sgT f.op f.name f.val f.bound = [90, 32] := by simp [sgT, o15, hv0]
   exact AP rfl ⟨by rw [e]; rfl, k1.trans kd, fun h => absurd h o3⟩
 by_cases o16 : f.op = 16 ∨ f.op = 17
 ·have hvl : s.val = 9999 := by
   rcases o16 with h | h <;> rw [h] at hs <;> simp [Be, styL, List.lookup] at hs <;> rw [← hs]
  refine AA (AQ rfl rfl (by omega) (AC (AB rfl ?_)))
  repeat first | refine nx rfl ?_ | refine nf rfl ?_
  refine AA (AQ rfl rfl (by omega) (AC (AB rfl ?_)))
  repeat first | refine nx rfl ?_ | refine nf rfl ?_
  refine AA (AQ rfl rfl (by omega) (AC (AB rfl ?_)))
  repeat first | refine nx rfl ?_ | refine nf rfl ?_
  refine AA (AQ rfl rfl (by omega) (AC (AB rfl ?_)))
  repeat first | refine nx rfl ?_ | refine nf rfl ?_
  rcases o16 with h16 | h17
  ·refine AA (At rfl rfl (by omega) (AC (AB rfl ?_)))
   repeat refine nx rfl ?_
   by_cases hvu : f.val = (s.usual : Int)
   ·refine B8 (.read 0 (.read 1 (.read 2 (.read 3 (.read 4 (.read 5 (.read 6 .done))))))) BA (by kernel_rfl) (by repeat (first | exact BZ | refine BK ?_ | refine Bz ?_)) (fun wd kd ed => ⟨Ext wd, ?_, ?_⟩)
    ·exact Ext.refl _
    have bd := b1.keep kd (by simp)
    have fn : ∀ W, Ext wd W → W.cell? ⟨b, o + 1, none⟩ = some (AK f.name) := fun W e => ((k1.trans kd).trans e).cell (hcl 1 _ rfl) (by simp)
    have fv : ∀ W, Ext wd W → W.cell? ⟨b, o + 2, none⟩ = some (.int .i64 f.val) := fun W e => ((k1.trans kd).trans e).cell (hcl 2 _ rfl) (by simp)
    have fb : ∀ W, Ext wd W → W.cell? ⟨b, o + 3, none⟩ = some (.int .i64 f.bound) := fun W e => ((k1.trans kd).trans e).cell (hcl 3 _ rfl) (by simp)
    have g0 : ∀ W, Ext wd W → W.cell? ⟨w.heap.size, 0 + 0, none⟩ = some (AK s.sign) := fun W e => (bd.keep e (by simp)).cell rfl
    have g8 : ∀ W, Ext wd W → W.cell? ⟨w.heap.size, 0 + 8, none⟩ = some (.int .i64 (s.usual : Int)) := fun W e => (bd.keep e (by simp)).cell rfl
    refine D_R rfl rfl (fun W hW => AO rfl Z3) (D_R rfl rfl (fun W hW => AG rfl Z3) (D_R rfl rfl (fun W hW => AD rfl Z3) (D_R rfl rfl (fun W hW => AF rfl (fv W hW) Z3) (D_R rfl rfl (fun W hW => AD rfl Z3) (D_R rfl rfl (fun W hW => AF rfl (g8 W hW) Z3) (D_eqlT rfl rfl rfl rfl (by omega) (Ay ?_)))))))
    repeat refine nx rfl ?_
    have g1 := g0 _ (Ext.refl _)
    refine AA (AD rfl (AF rfl (Blk.cell (by assumption) (by rfl)) ?_))
    refine W_sadd rfl rfl (by simp; omega) ?_
    refine AC (AU rfl ?_)
    repeat refine nx rfl ?_
    have e : sgT f.op f.name f.val f.bound = s.sign ++ [32] := by
     unfold sgT
     rw [esd]
     simp [h16, hvu]
    exact AP rfl ⟨by rw [e]; rfl, k1.trans kd, fun h => absurd h o3⟩
   ·refine B8 (.read 0 (.read 1 (.read 2 (.read 3 (.read 4 (.read 5 (.read 6 .done))))))) BA (by kernel_rfl) (by repeat (first | exact BZ | refine BK ?_ | refine Bz ?_)) (fun wd kd ed => ⟨Ext wd, ?_, ?_⟩)
    ·exact Ext.refl _
    have bd := b1.keep kd (by simp)
    have fn : ∀ W, Ext wd W → W.cell? ⟨b, o + 1, none⟩ = some (AK f.name) := fun W e => ((k1.trans kd).trans e).cell (hcl 1 _ rfl) (by simp)
    have fv : ∀ W, Ext wd W → W.cell? ⟨b, o + 2, none⟩ = some (.int .i64 f.val) := fun W e => ((k1.trans kd).trans e).cell (hcl 2 _ rfl) (by simp)
    have fb : ∀ W, Ext wd W → W.cell? ⟨b, o + 3, none⟩ = some (.int .i64 f.bound) := fun W e => ((k1.trans kd).trans e).cell (hcl 3 _ rfl) (by simp)
    have g0 : ∀ W, Ext wd W → W.cell? ⟨w.heap.size, 0 + 0, none⟩ = some (AK s.sign) := fun W e => (bd.keep e (by simp)).cell rfl
    have g8 : ∀ W, Ext wd W → W.cell? ⟨w.heap.size, 0 + 8, none⟩ = some (.int .i64 (s.usual : Int)) := fun W e => (bd.keep e (by simp)).cell rfl
    refine D_R rfl rfl (fun W hW => AO rfl Z3) (D_R rfl rfl (fun W hW => AG rfl Z3) (D_R rfl rfl (fun W hW => AD rfl Z3) (D_R rfl rfl (fun W hW => AF rfl (fv W hW) Z3) (D_R rfl rfl (fun W hW => AD rfl Z3) (D_R rfl rfl (fun W hW => AF rfl (g8 W hW) Z3) (D_eqlF rfl rfl rfl rfl (by omega) (Ay ?_)))))))
    repeat first | refine nx rfl ?_ | refine nf rfl ?_
    replace k1 := k1.trans kd
    replace b1 := bd
    clear fn fv fb g0 g8 bd kd ed
    refine B8 (.read 0 (.read 1 (.read 2 (.read 3 (.read 4 (.read 5 (.read 6 (.alt 7 (.read 8 (.read 9 (.read 10 .done))) .stop)))))))) BA (by kernel_rfl) (by repeat (first | exact BZ | refine BK ?_ | refine Bz ?_)) (fun wd kd ed => ⟨Ext wd, ?_, ?_⟩)
    ·exact Ext.refl _
    have bd := b1.keep kd (by simp)
    have fn : ∀ W, Ext wd W → W.cell? ⟨b, o + 1, none⟩ = some (AK f.name) := fun W e => ((k1.trans kd).trans e).cell (hcl 1 _ rfl) (by simp)
    have fv : ∀ W, Ext wd W → W.cell? ⟨b, o + 2, none⟩ = some (.int .i64 f.val) := fun W e => ((k1.trans kd).trans e).cell (hcl 2 _ rfl) (by simp)
    have fb : ∀ W, Ext wd W → W.cell? ⟨b, o + 3, none⟩ = some (.int .i64 f.bound) := fun W e => ((k1.trans kd).trans e).cell (hcl 3 _ rfl) (by simp)
    have g0 : ∀ W, Ext wd W → W.cell? ⟨w.heap.size, 0 + 0, none⟩ = some (AK s.sign) := fun W e => (bd.keep e (by simp)).cell rfl
    have g8 : ∀ W, Ext wd W → W.cell? ⟨w.heap.size, 0 + 8, none⟩ = some (.int .i64 (s.usual : Int)) := fun W e => (bd.keep e (by simp)).cell rfl
    refine D_R rfl rfl (fun W hW => AD rfl Z3) (D_R rfl rfl (fun W hW => AF rfl (g0 W hW) Z3) ?_)
    (apply D_R rfl rfl; (intro W hW; (refine W_sadd rfl rfl (by (try simp); omega) ?_); exact AJ ⟨rfl, rfl, rfl⟩))
    refine D_R rfl rfl (fun W hW => AO rfl Z3) (D_R rfl rfl (fun W hW => AG rfl Z3) (D_R rfl rfl (fun W hW => AD rfl Z3) (D_R rfl rfl (fun W hW => AF rfl (fv W hW) Z3) ?_)))
    refine D_E rfl ?_
    refine Ac (wnumber_ok wd f.val (hG.ext (k1.trans kd))) rfl ?_ ?_
    rotate_left
    ·rintro ch w3 ⟨rfl, hb2, rfl⟩
     rw [numB_of h1 (by omega)] at hb2; cases hb2
    rintro v w3 ⟨rfl, _, k3⟩
    have hnn := numT_len (n := f.val) (by omega)
    refine AJ ⟨Ext w3, fun _ e => k3.trans e, Ext.refl _, ?_⟩
    (apply D_R rfl rfl; (intro W hW; (refine W_sadd rfl rfl (by (try simp); omega) ?_); exact AJ ⟨rfl, rfl, rfl⟩))
    (apply D_R rfl rfl; (intro W hW; (refine W_sadd rfl rfl (by (try simp); omega) ?_); exact AJ ⟨rfl, rfl, rfl⟩))
    refine D_R rfl rfl (fun W hW => AC (AU rfl Z3)) (Ay ?_)
    repeat refine nx rfl ?_
    have e : sgT f.op f.name f.val f.bound = s.sign ++ [91] ++ CL f.val ++ [93, 32] := by
     unfold sgT
     rw [esd]
     simp [h16, hvu]
    exact AP rfl ⟨by rw [e]; rfl, (k1.trans kd).trans k3, fun h => absurd h o3⟩
  ·refine AA (AQ rfl rfl (by omega) (AC (AB rfl ?_)))
   repeat first | refine nx rfl ?_ | refine nf rfl ?_
   refine AA (At rfl rfl (by omega) (AC (AB rfl ?_)))
   repeat refine nx rfl ?_
   by_cases hvu : f.val = (s.usual : Int)
   ·refine B8 (.read 0 (.read 1 (.read 2 (.read 3 (.read 4 (.read 5 (.read 6 .done))))))) BA (by kernel_rfl) (by repeat (first | exact BZ | refine BK ?_ | refine Bz ?_)) (fun wd kd ed => ⟨Ext wd, ?_, ?_⟩)
    ·exact Ext.refl _
    have bd := b1.keep kd (by simp)
    have fn : ∀ W, Ext wd W → W.cell? ⟨b, o + 1, none⟩ = some (AK f.name) := fun W e => ((k1.trans kd).trans e).cell (hcl 1 _ rfl) (by simp)
    have fv : ∀ W, Ext wd W → W.cell? ⟨b, o + 2, none⟩ = some (.int .i64 f.val) := fun W e => ((k1.trans kd).trans e).cell (hcl 2 _ rfl) (by simp)
    have fb : ∀ W, Ext wd W → W.cell? ⟨b, o + 3, none⟩ = some (.int .i64 f.bound) := fun W e => ((k1.trans kd).trans e).cell (hcl 3 _ rfl) (by simp)
    have g0 : ∀ W, Ext wd W → W.cell? ⟨w.heap.size, 0 + 0, none⟩ = some (AK s.sign) := fun W e => (bd.keep e (by simp)).cell rfl
    have g8 : ∀ W, Ext wd W → W.cell? ⟨w.heap.size, 0 + 8, none⟩ = some (.int .i64 (s.usual : Int)) := fun W e => (bd.keep e (by simp)).cell rfl
    refine D_R rfl rfl (fun W hW => AO rfl Z3) (D_R rfl rfl (fun W hW => AG rfl Z3) (D_R rfl rfl (fun W hW => AD rfl Z3) (D_R rfl rfl (fun W hW => AF rfl (fv W hW) Z3) (D_R rfl rfl (fun W hW => AD rfl Z3) (D_R rfl rfl (fun W hW => AF rfl (g8 W hW) Z3) (D_eqlT rfl rfl rfl rfl (by omega) (Ay ?_)))))))
    repeat refine nx rfl ?_
    have g1 := g0 _ (Ext.refl _)
    refine AA (AD rfl (AF rfl (Blk.cell (by assumption) (by rfl)) ?_))
    refine W_sadd rfl rfl (by simp; omega) ?_
    refine AC (AU rfl ?_)
    repeat refine nx rfl ?_
    have e : sgT f.op f.name f.val f.bound = s.sign ++ [32] := by
     unfold sgT
     rw [esd]
     simp [h17, hvu]
    exact AP rfl ⟨by rw [e]; rfl, k1.trans kd, fun h => absurd h o3⟩
   ·refine B8 (.read 0 (.read 1 (.read 2 (.read 3 (.read 4 (.read 5 (.read 6 .done))))))) BA (by kernel_rfl) (by repeat (first | exact BZ | refine BK ?_ | refine Bz ?_)) (fun wd kd ed => ⟨Ext wd, ?_, ?_⟩)
    ·exact Ext.refl _
    have bd := b1.keep kd (by simp)
    have fn : ∀ W, Ext wd W → W.cell? ⟨b, o + 1, none⟩ = some (AK f.name) := fun W e => ((k1.trans kd).trans e).cell (hcl 1 _ rfl) (by simp)
    have fv : ∀ W, Ext wd W → W.cell? ⟨b, o + 2, none⟩ = some (.int .i64 f.val) := fun W e => ((k1.trans kd).trans e).cell (hcl 2 _ rfl) (by simp)
    have fb : ∀ W, Ext wd W → W.cell? ⟨b, o + 3, none⟩ = some (.int .i64 f.bound) := fun W e => ((k1.trans kd).trans e).cell (hcl 3 _ rfl) (by simp)
    have g0 : ∀ W, Ext wd W → W.cell? ⟨w.heap.size, 0 + 0, none⟩ = some (AK s.sign) := fun W e => (bd.keep e (by simp)).cell rfl
    have g8 : ∀ W, Ext wd W → W.cell? ⟨w.heap.size, 0 + 8, none⟩ = some (.int .i64 (s.usual : Int)) := fun W e => (bd.keep e (by simp)).cell rfl
    refine D_R rfl rfl (fun W hW => AO rfl Z3) (D_R rfl rfl (fun W hW => AG rfl Z3) (D_R rfl rfl (fun W hW => AD rfl Z3) (D_R rfl rfl (fun W hW => AF rfl (fv W hW) Z3) (D_R rfl rfl (fun W hW => AD rfl Z3) (D_R rfl rfl (fun W hW => AF rfl (g8 W hW) Z3) (D_eqlF rfl rfl rfl rfl (by omega) (Ay ?_)))))))
    repeat first | refine nx rfl ?_ | refine nf rfl ?_
    replace k1 := k1.trans kd
    replace b1 := bd
    clear fn fv fb g0 g8 bd kd ed
    refine B8 (.read 0 (.read 1 (.read 2 (.read 3 (.read 4 (.read 5 (.read 6 (.alt 7 (.read 8 (.read 9 (.read 10 .done))) .stop)))))))) BA (by kernel_rfl) (by repeat (first | exact BZ | refine BK ?_ | refine Bz ?_)) (fun wd kd ed => ⟨Ext wd, ?_, ?_⟩)
    ·exact Ext.refl _
    have bd := b1.keep kd (by simp)
    have fn : ∀ W, Ext wd W → W.cell? ⟨b, o + 1, none⟩ = some (AK f.name) := fun W e => ((k1.trans kd).trans e).cell (hcl 1 _ rfl) (by simp)
    have fv : ∀ W, Ext wd W → W.cell? ⟨b, o + 2, none⟩ = some (.int .i64 f.val) := fun W e => ((k1.trans kd).trans e).cell (hcl 2 _ rfl) (by simp)
    have fb : ∀ W, Ext wd W → W.cell? ⟨b, o + 3, none⟩ = some (.int .i64 f.bound) := fun W e => ((k1.trans kd).trans e).cell (hcl 3 _ rfl) (by simp)
    have g0 : ∀ W, Ext wd W → W.cell? ⟨w.heap.size, 0 + 0, none⟩ = some (AK s.sign) := fun W e => (bd.keep e (by simp)).cell rfl
    have g8 : ∀ W, Ext wd W → W.cell? ⟨w.heap.size, 0 + 8, none⟩ = some (.int .i64 (s.usual : Int)) := fun W e => (bd.keep e (by simp)).cell rfl
    refine D_R rfl rfl (fun W hW => AD rfl Z3) (D_R rfl rfl (fun W hW => AF rfl (g0 W hW) Z3) ?_)
    (apply D_R rfl rfl; (intro W hW; (refine W_sadd rfl rfl (by (try simp); omega) ?_); exact AJ ⟨rfl, rfl, rfl⟩))
    refine D_R rfl rfl (fun W hW => AO rfl Z3) (D_R rfl rfl (fun W hW => AG rfl Z3) (D_R rfl rfl (fun W hW => AD rfl Z3) (D_R rfl rfl (fun W hW => AF rfl (fv W hW) Z3) ?_)))
    refine D_E rfl ?_
    refine Ac (wnumber_ok wd f.val (hG.ext (k1.trans kd))) rfl ?_ ?_
    rotate_left
    ·rintro ch w3 ⟨rfl, hb2, rfl⟩
     rw [numB_of h1 (by omega)] at hb2; cases hb2
    rintro v w3 ⟨rfl, _, k3⟩
    have hnn := numT_len (n := f.val) (by omega)
    refine AJ ⟨Ext w3, fun _ e => k3.trans e, Ext.refl _, ?_⟩
    (apply D_R rfl rfl; (intro W hW; (refine W_sadd rfl rfl (by (try simp); omega) ?_); exact AJ ⟨rfl, rfl, rfl⟩))
    (apply D_R rfl rfl; (intro W hW; (refine W_sadd rfl rfl (by (try simp); omega) ?_); exact AJ ⟨rfl, rfl, rfl⟩))
    refine D_R rfl rfl (fun W hW => AC (AU rfl Z3)) (Ay ?_)
    repeat refine nx rfl ?_
    have e : sgT f.op f.name f.val f.bound = s.sign ++ [91] ++ CL f.val ++ [93, 32] := by
     unfold sgT
     rw [esd]
     simp [h17, hvu]
    exact AP rfl ⟨by rw [e]; rfl, (k1.trans kd).trans k3, fun h => absurd h o3⟩
 ·refine AA (AQ rfl rfl (by omega) (AC (AB rfl ?_)))
  repeat first | refine nx rfl ?_ | refine nf rfl ?_
  refine AA (AQ rfl rfl (by omega) (AC (AB rfl ?_)))
  repeat first | refine nx rfl ?_ | refine nf rfl ?_
  refine AA (AQ rfl rfl (by omega) (AC (AB rfl ?_)))
  repeat first | refine nx rfl ?_ | refine nf rfl ?_
  refine AA (AQ rfl rfl (by omega) (AC (AB rfl ?_)))
  repeat first | refine nx rfl ?_ | refine nf rfl ?_
  refine AA (AQ rfl rfl (by omega) (AC (AB rfl ?_)))
  repeat first | refine nx rfl ?_ | refine nf rfl ?_
  refine AA (AQ rfl rfl (by omega) (AC (AB rfl ?_)))
  repeat first | refine nx rfl ?_ | refine nf rfl ?_
  have g1 : w1.cell? ⟨w.heap.size, 0 + 0, none⟩ = some (AK s.sign) := b1.cell rfl
  (refine AA (AD rfl (AF rfl (Blk.cell (by assumption) (by rfl)) ?_)) <;> refine AC (AU rfl ?_))
  repeat refine nx rfl ?_
  have e : sgT f.op f.name f.val f.bound = s.sign := by simp [sgT, o3, o13, o15, o16, esd]
  exact AP rfl ⟨by rw [e]; rfl, k1, fun h => absurd h o3⟩
end Go.Proofs.YtfcgdbmoncnibaaGreatDoor
namespace Go.Proofs.YtfcgdbmoncnibaaGreatDoor
open Go.RowKit
set_option linter.unusedVariables false
inductive Pc where
 | txt (t : List UInt8)
 | sub (f : Fml) (n : Nat)
def subC (b o n : Nat) : List Value := [AK [], .pointer (some ⟨b, o, none⟩), .int .i64 (n : Int)]
def txtC (t : List UInt8) : List Value := [AK t, .pointer none, .int .i64 0]
def pcFits (ok : Nat → Prop) (w : World) (c : List Value) : Pc → Prop
 | .txt t => c = txtC t
 | .sub f n => ∃ b o, c = subC b o n ∧ PF ok w b o f
def pcR : Rp Pc where
 fits := pcFits
 size := 3
 len {ok w c a} h := by
  cases a with
  | txt t => have h : c = txtC t := h; subst h; rfl
  | sub f n => obtain ⟨b, o, rfl, _⟩ := h; rfl
 one {ok w c a} h := by
  cases a with
  | txt t =>
   have h : c = txtC t := h
   subst h; intro u hu; simp [txtC] at hu; rcases hu with rfl | rfl | rfl <;> rfl
  | sub f n => obtain ⟨b, o, rfl, _⟩ := h; intro u hu; simp [subC] at hu; rcases hu with rfl | rfl | rfl <;> rfl
 keep {ok X w w' c a} h k hX := by
  cases a with
  | txt t => exact h
  | sub f n => obtain ⟨b, o, e, hp⟩ := h; exact ⟨b, o, e, hp.keep k hX⟩
 lt {ok w c a} h := by
  cases a with
  | txt t => exact h
  | sub f n => obtain ⟨b, o, e, hp⟩ := h; exact ⟨b, o, e, hp.lt⟩
 mono {ok ok' w c a} h hk := by
  cases a with
  | txt t => exact h
  | sub f n => obtain ⟨b, o, e, hp⟩ := h; exact ⟨b, o, e, hp.mono hk⟩
def argP (next : Nat) (sg : List UInt8) : List Fml → List Pc
 | [] => []
 | a :: l => .txt sg :: .sub a next :: argP next sg l
def Ce (first next : Nat) (sg : List UInt8) : List Fml → List Pc
 | [] => []
 | a :: l => .sub a first :: argP next sg l
theorem argP_len (next : Nat) (sg : List UInt8) : ∀ l, (argP next sg l).length = 2 * l.length
 | [] => rfl
 | a :: l => by simp [argP, argP_len next sg l]; omega
theorem argP_snoc (next : Nat) (sg : List UInt8) (a : Fml) : ∀ l, argP next sg (l ++ [a]) = argP next sg l ++ [.txt sg, .sub a next]
 | [] => rfl
 | c :: l => by simp [argP, argP_snoc next sg a l]
theorem argsP_snoc {first next : Nat} {sg : List UInt8} {a : Fml} {l : List Fml} (h : l ≠ []) : Ce first next sg (l ++ [a]) = Ce first next sg l ++ [.txt sg, .sub a next] := by
 cases l with
 | nil => exact absurd rfl h
 | cons c l => simp [Ce, argP_snoc]
theorem argsP_len (first next : Nat) (sg : List UInt8) (l : List Fml) : (Ce first next sg l).length ≤ 2 * l.length := by
 cases l with
 | nil => simp [Ce]
 | cons a l => simp [Ce, argP_len]; omega
def DA (s : Sty) (n : Nat) : List Pc := if s.level < n then [.txt [40]] else []
def DZ (s : Sty) (n : Nat) : List Pc := if s.level < n then [.txt [41]] else []
def Cc (sg : List UInt8) (k : Nat) : List Pc := if k < 2 then [.txt sg] else []
def pcs (s : Sty) (n : Nat) (f : Fml) : List Pc :=
 DA s n ++ Cc (sgT f.op f.name f.val f.bound) f.args.length ++ Ce s.first s.next (sgT f.op f.name f.val f.bound) f.args ++ DZ s n
structure PS (C B : Nat) (v : Value) (L : List (List Value)) (ps : List Pc) (W : World) : Prop where
 own : W.ownsRow B 125 3 v ps.length L.flatten
 rs : RsAt pcR (fun b => b < C) W L ps
 le : C ≤ B
theorem PS.ext {C B : Nat} {v : Value} {L : List (List Value)} {ps : List Pc} {W W' : World} (h : PS C B v L ps W) (k : Ext W W') : PS C B v L ps W' := ⟨B4 h.own k, h.rs.ext k, h.le⟩
theorem PS.app {C B : Nat} {v v2 : Value} {L M : List (List Value)} {ps qs : List Pc} {W1 W2 : World} (h : PS C B v L ps W1) (a : Apd W1 W2 B 125 3 v v2 (ps.length + qs.length) (L.flatten ++ M.flatten)) (hq : RsAt pcR (fun b => b < C) W1 M qs) : PS C B v2 (L ++ M) (ps ++ qs) W2 := by
 have hX : ∀ b, b < C → b ∉ v.ownBlock.toList := fun b hb hx => by
  have := (Br h.own (Option.mem_toList.1 hx)).1; have := h.le; omega
 refine ⟨?_, (h.rs.keep a.keep hX).app (hq.keep a.keep hX), h.le⟩
 rw [List.length_append, List.flatten_append]
 exact a.own
theorem PS.nil {C B : Nat} (h : C ≤ B) (W : World) : PS C B (.slice none 0 0) [] [] W := ⟨⟨by simp, .inl ⟨rfl, rfl⟩⟩, RsAt.nil, h⟩
theorem txt_fits (ok : Nat → Prop) (w : World) (t : List UInt8) : RsAt pcR ok w [txtC t] [.txt t] := RsAt.one (R := pcR) (a := .txt t) rfl
theorem PS.form {C B : Nat} {v : Value} {L : List (List Value)} {ps : List Pc} {W : World} (h : PS C B v L ps W) : ∃ a c, v = .slice a ps.length c := by
 rcases h.own.2 with ⟨rfl, h0⟩ | ⟨g, cap, cur, rfl, _⟩
 ·exact ⟨none, 0, by rw [h0]⟩
 ·exact ⟨_, _, rfl⟩
def outP : Pc → List UInt8
 | .txt t => t
 | .sub f n => prF n f
theorem out_argP (next : Nat) (sg : List UInt8) : ∀ l, (argP next sg l).flatMap outP = prR next sg l
 | [] => by simp [argP, prR]
 | a :: l => by simp [argP, prR, outP, out_argP next sg l]
theorem out_pcs {f : Fml} {s : Sty} (hs : Be f.op = some s) (n : Nat) : (pcs s n f).flatMap outP = prF n f := by
 have esd : Bo f.op = s := by unfold Bo; rw [hs]; rfl
 cases f with
 | mk op nm v b args =>
  have esd : Bo op = s := esd
  simp only [prF, esd]
  have hA : (Cc (sgT op nm v b) args.length ++ Ce s.first s.next (sgT op nm v b) args).flatMap outP = prA s.first s.next (sgT op nm v b) args := by
   cases args with
   | nil => simp [Cc, Ce, prA, outP]
   | cons a l =>
    cases l with
    | nil => simp [Cc, Ce, argP, prA, prR, outP]
    | cons c l =>
     have h2 : ¬ (l.length + 1 + 1 < 2) := by omega
     simp [Cc, Ce, prA, outP, out_argP, h2]
  have e : pcs s n (.mk op nm v b args) = DA s n ++ (Cc (sgT op nm v b) args.length ++ Ce s.first s.next (sgT op nm v b) args) ++ DZ s n := by
   show DA s n ++ Cc (sgT op nm v b) args.length ++ Ce s.first s.next (sgT op nm v b) args ++ DZ s n = _
   simp
  rw [e, List.flatMap_append, List.flatMap_append, hA]
  by_cases hl : s.level < n
  ·simp [DA, DZ, hl, wrapT, outP]
  ·simp [DA, DZ, hl, wrapT]
end Go.Proofs.YtfcgdbmoncnibaaGreatDoor
