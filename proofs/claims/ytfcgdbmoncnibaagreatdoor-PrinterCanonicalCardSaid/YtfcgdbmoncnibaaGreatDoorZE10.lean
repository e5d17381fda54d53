/- The printer: the table of styles, filled in any order. The printer: what panics, numbers, names. The printer: what a node must be, its sign. The printer: the sign of a node. The printer: the pieces of a node. Conditions: none. -/
import Derived.Test.YtfcgdbmoncnibaaGreatDoorZE9
import Derived.Test.YtfcgdbmoncnibaaGreatDoorShl

namespace Go.Proofs.YtfcgdbmoncnibaaGreatDoor
open Go.RowKit
set_option linter.unusedVariables false
variable {mk : Prop} [MK mk]
section
attribute [local semireducible] WC AV CA Bc B7 C3 DW Bw
variable {P : Program} {all : Array Oper} {Z : Fr → DS → List PanicEntry → World → Prop} {K : Fr → DS → World → Prop} {rest : List Oper} {f : Fr} {ds : DS} {w : World} {d : Nat} {ty : TypeId} {pos : String} {af : Array Edge}
theorem Cr {x : Operand} {v : Value} (hx : ev f x = v) (h : AV P all Z K rest (upd f d v) ds w) : AV P all Z K (⟨some d, .move x, ty, pos, af, none⟩ :: rest) f ds w := by
 subst hx; exact A0 h
theorem Ci {x : Operand} {l : List Operand} {v : Value} {vs : List Value} (h : ev f x = v) (h' : evL f l = vs) : evL f (x :: l) = v :: vs := by
 subst h; subst h'; rfl
end
theorem Aj {o : Oper} {L : Nat → Bool} {j : Nat} (h : (o.after.toList.any fun e => Nat.beq e.on j && Region.binds .any e) = true) (hall : ∀ e ∈ o.after.toList, Region.binds .any e = true → L e.on = true) : L j = true := by
 obtain ⟨e, he, h2⟩ := List.any_eq_true.1 h
 simp only [Bool.and_eq_true] at h2
 have h3 : e.on = j := Nat.eq_of_beq_eq_true h2.1
 rw [← h3]; exact hall e he h2.2
theorem ins_sty : ∀ p ∈ insT, (Bn p.2.1).map Br = some p.2.2 := by
 intro p hp
 simp only [insT, List.mem_cons, List.not_mem_nil, or_false] at hp
 rcases hp with rfl | rfl | rfl | rfl | rfl | rfl | rfl | rfl | rfl | rfl | rfl | rfl | rfl | rfl | rfl | rfl | rfl | rfl | rfl <;> rfl
theorem sty_ins {op : Int} {s : Sty} (h : Bn op = some s) : ∃ p ∈ insT, p.2.1 = op := by
 rcases op_cases h with rfl | rfl | rfl | rfl | rfl | rfl | rfl | rfl | rfl | rfl | rfl | rfl | rfl | rfl | rfl | rfl | rfl | rfl | rfl
 ·exact ⟨(2, 1, Ap 1), by simp [insT], rfl⟩
 ·exact ⟨(4, 2, Ap 2), by simp [insT], rfl⟩
 ·exact ⟨(6, 3, Ap 3), by simp [insT], rfl⟩
 ·exact ⟨(10, 4, Ap 4), by simp [insT], rfl⟩
 ·exact ⟨(12, 5, Ap 5), by simp [insT], rfl⟩
 ·exact ⟨(14, 6, Ap 6), by simp [insT], rfl⟩
 ·exact ⟨(16, 7, Ap 7), by simp [insT], rfl⟩
 ·exact ⟨(20, 8, Ap 8), by simp [insT], rfl⟩
 ·exact ⟨(24, 9, Ap 9), by simp [insT], rfl⟩
 ·exact ⟨(28, 10, Ap 10), by simp [insT], rfl⟩
 ·exact ⟨(32, 11, Ap 11), by simp [insT], rfl⟩
 ·exact ⟨(36, 12, Ap 12), by simp [insT], rfl⟩
 ·exact ⟨(40, 13, Ap 13), by simp [insT], rfl⟩
 ·exact ⟨(44, 14, Ap 14), by simp [insT], rfl⟩
 ·exact ⟨(48, 15, Ap 15), by simp [insT], rfl⟩
 ·exact ⟨(52, 16, Ap 16), by simp [insT], rfl⟩
 ·exact ⟨(56, 17, Ap 17), by simp [insT], rfl⟩
 ·exact ⟨(60, 18, Ap 18), by simp [insT], rfl⟩
 ·exact ⟨(64, 19, Ap 19), by simp [insT], rfl⟩
def StyM (w : World) (r : Nat) : Prop := ∃ M, VMap w r M ∧ ∀ op, M.lookup op = (Bn op).map Br
theorem StyM.keep {X : List Nat} {w w' : World} {r : Nat} (h : StyM w r) (k : Keep X w w') (hr : r ∉ X) : StyM w' r := by
 obtain ⟨M, h1, h2⟩ := h
 exact ⟨M, h1.keep k hr, h2⟩
set_option maxHeartbeats 6400000 in
set_option maxRecDepth 20000 in
theorem styles_ok (w : World) : Fn Tryz.prog 74 [] w fun v w' => ∃ r, v = .map (some r) ∧ Ext w w' ∧ w.heap.size ≤ r ∧ StyM w' r := by
 refine Af Tryz.func74 rfl Tryz.ntmps74 (Nat.le_of_ble_eq_true rfl) (by kernel_rfl) ?_
 repeat refine nx rfl ?_
 refine AA (AC (M_map rfl ?_))
 repeat refine nx rfl ?_
 refine AA (Ac (by rfl) (by rfl) ?_)
 refine A2 (cs := CR pfx) rfl rfl (by rfl) (styC_one _) (fun w1 n1 => AJ ?_)
 repeat refine nx rfl ?_
 refine AA (Ac (by rfl) (by rfl) ?_)
 refine A2 (cs := CR ifx) rfl rfl (by rfl) (styC_one _) (fun w2 n2 => AJ ?_)
 repeat refine nx rfl ?_
 refine AA (AC (Cs rfl ?_))
 repeat refine nx rfl ?_
 refine AA (AC (Cs rfl ?_))
 repeat refine nx rfl ?_
 refine AA (AC (Cs rfl ?_))
 repeat refine nx rfl ?_
 have k2 : Ext w w2 := n1.keep.trans n2.keep
 have B1 : Blk w2 w.heap.size 129 (CR pfx) := n1.blk.keep n2.keep (by simp)
 have B2 : Blk w2 w1.heap.size 129 (CR ifx) := n2.blk
 refine C_inv (StyInv w.heap.size w1.heap.size w2 []) BC (by kernel_rfl) ?_ ?_ ?_
 ·intro w3 k3 e3
  refine ⟨rfl, k3, rfl, rfl, rfl, rfl, rfl, fun p hp hL => ?_, fun p hp hL => ?_, fun hL => (by cases hL), fun hL => (by cases hL), fun hL => (by cases hL), fun hL => (by cases hL)⟩
  ·have := (v_ops p hp).1
   have hb : Nat.blt p.1 67 = true := by rw [Nat.blt_eq]; exact this
   have hL : (!Nat.blt p.1 67) = true := hL
   rw [hb] at hL; cases hL
  ·have := (i_ops p hp).1
   have hb : Nat.blt p.1 67 = true := by rw [Nat.blt_eq]; exact this
   have hL : (!Nat.blt p.1 67) = true := hL
   rw [hb] at hL; cases hL
 ·intro L f ds w i o hI ho hL haft
  have hB1 : Blk w2 _ 129 (CR pfx) := B1
  have hB2 : Blk w2 _ 129 (CR ifx) := B2
  have hlt : i < 67 := (List.getElem?_eq_some_iff.1 ho).1
  match i, hlt, ho, hL, haft with
  | 0, _, ho, hL, haft =>
   obtain rfl := Option.some.inj ho
   refine W_makeMapV (fun w1 k1 z1 m1 => AJ ?_)
   exact styInv_make hI k1 m1 hL
  | 1, _, ho, hL, haft =>
   obtain rfl := Option.some.inj ho
   refine Ac (vs := _) (out := CR (styK 1)) rfl (by kernel_rfl) (AJ ?_)
   exact Am (p := (1, 9, Ap 1)) hI (by simp [valT]) (Ext.refl _)
  | 2, _, ho, hL, haft =>
   obtain rfl := Option.some.inj ho
   have h0 : L 0 = true := Aj (j := 0) (by kernel_rfl) haft
   have h1 : L 1 = true := Aj (j := 1) (by kernel_rfl) haft
   obtain ⟨r, M, hr, hlr, hM, hm⟩ := hI.map h0
   refine Bl (x := 1) (y := Ap 1) hr rfl (hI.vals (1, 9, Ap 1) (by simp [valT]) h1) hM (hI.none (q := (2, 1, Ap 1)) (by simp [insT]) hL hm) (fun w1 k1 z1 m1 => AJ ?_)
   exact BW (q := (2, 1, Ap 1)) hI (by simp [insT]) hr hlr hm k1 m1 h0
  | 3, _, ho, hL, haft =>
   obtain rfl := Option.some.inj ho
   refine Ac (vs := _) (out := CR (styK 2)) rfl (by kernel_rfl) (AJ ?_)
   exact Am (p := (3, 10, Ap 2)) hI (by simp [valT]) (Ext.refl _)
  | 4, _, ho, hL, haft =>
   obtain rfl := Option.some.inj ho
   have h0 : L 0 = true := Aj (j := 0) (by kernel_rfl) haft
   have h1 : L 3 = true := Aj (j := 3) (by kernel_rfl) haft
   obtain ⟨r, M, hr, hlr, hM, hm⟩ := hI.map h0
   refine Bl (x := 2) (y := Ap 2) hr rfl (hI.vals (3, 10, Ap 2) (by simp [valT]) h1) hM (hI.none (q := (4, 2, Ap 2)) (by simp [insT]) hL hm) (fun w1 k1 z1 m1 => AJ ?_)
   exact BW (q := (4, 2, Ap 2)) hI (by simp [insT]) hr hlr hm k1 m1 h0
  | 5, _, ho, hL, haft =>
   obtain rfl := Option.some.inj ho
   refine Ac (vs := _) (out := CR (styK 3)) rfl (by kernel_rfl) (AJ ?_)
   exact Am (p := (5, 11, Ap 3)) hI (by simp [valT]) (Ext.refl _)
  | 6, _, ho, hL, haft =>
   obtain rfl := Option.some.inj ho
   have h0 : L 0 = true := Aj (j := 0) (by kernel_rfl) haft
   have h1 : L 5 = true := Aj (j := 5) (by kernel_rfl) haft
   obtain ⟨r, M, hr, hlr, hM, hm⟩ := hI.map h0
   refine Bl (x := 3) (y := Ap 3) hr rfl (hI.vals (5, 11, Ap 3) (by simp [valT]) h1) hM (hI.none (q := (6, 3, Ap 3)) (by simp [insT]) hL hm) (fun w1 k1 z1 m1 => AJ ?_)
   exact BW (q := (6, 3, Ap 3)) hI (by simp [insT]) hr hlr hm k1 m1 h0
  | 7, _, ho, hL, haft =>
   obtain rfl := Option.some.inj ho
   refine Cr (v := fn1) hI.p3 (AJ ?_)
   exact Am (p := (7, 12, fn1)) hI (by simp [valT]) (Ext.refl _)
  | 8, _, ho, hL, haft =>
   obtain rfl := Option.some.inj ho
   refine AU hI.p1 (hB1.keep hI.ext (by simp)) rfl (AJ ?_)
   exact Am (p := (8, 13, Br pfx)) hI (by simp [valT]) (Ext.refl _)
  | 9, _, ho, hL, haft =>
   obtain rfl := Option.some.inj ho
   have h1 : L 7 = true := Aj (j := 7) (by kernel_rfl) haft
   have h2 : L 8 = true := Aj (j := 8) (by kernel_rfl) haft
   refine CC (v1 := []) (v2 := []) (vs := [Br pfx, AI [33]]) (hI.vals (7, 12, fn1) (by simp [valT]) h1) (Dk w pfx _) (Ci (hI.vals (8, 13, Br pfx) (by simp [valT]) h2) rfl) ?_
   rintro _ w1 ⟨rfl, k1⟩
   refine AJ ?_
   exact Am (p := (9, 14, Ap 4)) hI (by simp [valT]) k1
  | 10, _, ho, hL, haft =>
   obtain rfl := Option.some.inj ho
   have h0 : L 0 = true := Aj (j := 0) (by kernel_rfl) haft
   have h1 : L 9 = true := Aj (j := 9) (by kernel_rfl) haft
   obtain ⟨r, M, hr, hlr, hM, hm⟩ := hI.map h0
   refine Bl (x := 4) (y := Ap 4) hr rfl (hI.vals (9, 14, Ap 4) (by simp [valT]) h1) hM (hI.none (q := (10, 4, Ap 4)) (by simp [insT]) hL hm) (fun w1 k1 z1 m1 => AJ ?_)
   exact BW (q := (10, 4, Ap 4)) hI (by simp [insT]) hr hlr hm k1 m1 h0
  | 11, _, ho, hL, haft =>
   obtain rfl := Option.some.inj ho
   refine Ac (vs := _) (out := CR (styK 5)) rfl (by kernel_rfl) (AJ ?_)
   exact Am (p := (11, 15, Ap 5)) hI (by simp [valT]) (Ext.refl _)
  | 12, _, ho, hL, haft =>
   obtain rfl := Option.some.inj ho
   have h0 : L 0 = true := Aj (j := 0) (by kernel_rfl) haft
   have h1 : L 11 = true := Aj (j := 11) (by kernel_rfl) haft
   obtain ⟨r, M, hr, hlr, hM, hm⟩ := hI.map h0
   refine Bl (x := 5) (y := Ap 5) hr rfl (hI.vals (11, 15, Ap 5) (by simp [valT]) h1) hM (hI.none (q := (12, 5, Ap 5)) (by simp [insT]) hL hm) (fun w1 k1 z1 m1 => AJ ?_)
   exact BW (q := (12, 5, Ap 5)) hI (by simp [insT]) hr hlr hm k1 m1 h0
  | 13, _, ho, hL, haft =>
   obtain rfl := Option.some.inj ho
   refine Ac (vs := _) (out := CR (styK 6)) rfl (by kernel_rfl) (AJ ?_)
   exact Am (p := (13, 16, Ap 6)) hI (by simp [valT]) (Ext.refl _)
  | 14, _, ho, hL, haft =>
   obtain rfl := Option.some.inj ho
   have h0 : L 0 = true := Aj (j := 0) (by kernel_rfl) haft
   have h1 : L 13 = true := Aj (j := 13) (by kernel_rfl) haft
   obtain ⟨r, M, hr, hlr, hM, hm⟩ := hI.map h0
   refine Bl (x := 6) (y := Ap 6) hr rfl (hI.vals (13, 16, Ap 6) (by simp [valT]) h1) hM (hI.none (q := (14, 6, Ap 6)) (by simp [insT]) hL hm) (fun w1 k1 z1 m1 => AJ ?_)
   exact BW (q := (14, 6, Ap 6)) hI (by simp [insT]) hr hlr hm k1 m1 h0
  | 15, _, ho, hL, haft =>
   obtain rfl := Option.some.inj ho
   refine Ac (vs := _) (out := CR (styK 7)) rfl (by kernel_rfl) (AJ ?_)
   exact Am (p := (15, 17, Ap 7)) hI (by simp [valT]) (Ext.refl _)
  | 16, _, ho, hL, haft =>
   obtain rfl := Option.some.inj ho
   have h0 : L 0 = true := Aj (j := 0) (by kernel_rfl) haft
   have h1 : L 15 = true := Aj (j := 15) (by kernel_rfl) haft
   obtain ⟨r, M, hr, hlr, hM, hm⟩ := hI.map h0
   refine Bl (x := 7) (y := Ap 7) hr rfl (hI.vals (15, 17, Ap 7) (by simp [valT]) h1) hM (hI.none (q := (16, 7, Ap 7)) (by simp [insT]) hL hm) (fun w1 k1 z1 m1 => AJ ?_)
   exact BW (q := (16, 7, Ap 7)) hI (by simp [insT]) hr hlr hm k1 m1 h0
  | 17, _, ho, hL, haft =>
   obtain rfl := Option.some.inj ho
   refine Cr (v := fn1) hI.p3 (AJ ?_)
   exact Am (p := (17, 18, fn1)) hI (by simp [valT]) (Ext.refl _)
  | 18, _, ho, hL, haft =>
   obtain rfl := Option.some.inj ho
   refine AU hI.p1 (hB1.keep hI.ext (by simp)) rfl (AJ ?_)
   exact Am (p := (18, 19, Br pfx)) hI (by simp [valT]) (Ext.refl _)
  | 19, _, ho, hL, haft =>
   obtain rfl := Option.some.inj ho
   have h1 : L 17 = true := Aj (j := 17) (by kernel_rfl) haft
   have h2 : L 18 = true := Aj (j := 18) (by kernel_rfl) haft
   refine CC (v1 := []) (v2 := []) (vs := [Br pfx, AI [88, 32]]) (hI.vals (17, 18, fn1) (by simp [valT]) h1) (Dk w pfx _) (Ci (hI.vals (18, 19, Br pfx) (by simp [valT]) h2) rfl) ?_
   rintro _ w1 ⟨rfl, k1⟩
   refine AJ ?_
   exact Am (p := (19, 20, Ap 8)) hI (by simp [valT]) k1
  | 20, _, ho, hL, haft =>
   obtain rfl := Option.some.inj ho
   have h0 : L 0 = true := Aj (j := 0) (by kernel_rfl) haft
   have h1 : L 19 = true := Aj (j := 19) (by kernel_rfl) haft
   obtain ⟨r, M, hr, hlr, hM, hm⟩ := hI.map h0
   refine Bl (x := 8) (y := Ap 8) hr rfl (hI.vals (19, 20, Ap 8) (by simp [valT]) h1) hM (hI.none (q := (20, 8, Ap 8)) (by simp [insT]) hL hm) (fun w1 k1 z1 m1 => AJ ?_)
   exact BW (q := (20, 8, Ap 8)) hI (by simp [insT]) hr hlr hm k1 m1 h0
  | 21, _, ho, hL, haft =>
   obtain rfl := Option.some.inj ho
   refine Cr (v := fn1) hI.p3 (AJ ?_)
   exact Am (p := (21, 21, fn1)) hI (by simp [valT]) (Ext.refl _)
  | 22, _, ho, hL, haft =>
   obtain rfl := Option.some.inj ho
   refine AU hI.p2 (hB2.keep hI.ext (by simp)) rfl (AJ ?_)
   exact Am (p := (22, 22, Br ifx)) hI (by simp [valT]) (Ext.refl _)
  | 23, _, ho, hL, haft =>
   obtain rfl := Option.some.inj ho
   have h1 : L 21 = true := Aj (j := 21) (by kernel_rfl) haft
   have h2 : L 22 = true := Aj (j := 22) (by kernel_rfl) haft
   refine CC (v1 := []) (v2 := []) (vs := [Br ifx, AI [32, 85, 32]]) (hI.vals (21, 21, fn1) (by simp [valT]) h1) (Dk w ifx _) (Ci (hI.vals (22, 22, Br ifx) (by simp [valT]) h2) rfl) ?_
   rintro _ w1 ⟨rfl, k1⟩
   refine AJ ?_
   exact Am (p := (23, 23, Ap 9)) hI (by simp [valT]) k1
  | 24, _, ho, hL, haft =>
   obtain rfl := Option.some.inj ho
   have h0 : L 0 = true := Aj (j := 0) (by kernel_rfl) haft
   have h1 : L 23 = true := Aj (j := 23) (by kernel_rfl) haft
   obtain ⟨r, M, hr, hlr, hM, hm⟩ := hI.map h0
   refine Bl (x := 9) (y := Ap 9) hr rfl (hI.vals (23, 23, Ap 9) (by simp [valT]) h1) hM (hI.none (q := (24, 9, Ap 9)) (by simp [insT]) hL hm) (fun w1 k1 z1 m1 => AJ ?_)
   exact BW (q := (24, 9, Ap 9)) hI (by simp [insT]) hr hlr hm k1 m1 h0
  | 25, _, ho, hL, haft =>
   obtain rfl := Option.some.inj ho
   refine Cr (v := fn1) hI.p3 (AJ ?_)
   exact Am (p := (25, 24, fn1)) hI (by simp [valT]) (Ext.refl _)
  | 26, _, ho, hL, haft =>
   obtain rfl := Option.some.inj ho
   refine AU hI.p2 (hB2.keep hI.ext (by simp)) rfl (AJ ?_)
   exact Am (p := (26, 25, Br ifx)) hI (by simp [valT]) (Ext.refl _)
  | 27, _, ho, hL, haft =>
   obtain rfl := Option.some.inj ho
   have h1 : L 25 = true := Aj (j := 25) (by kernel_rfl) haft
   have h2 : L 26 = true := Aj (j := 26) (by kernel_rfl) haft
   refine CC (v1 := []) (v2 := []) (vs := [Br ifx, AI [32, 82, 32]]) (hI.vals (25, 24, fn1) (by simp [valT]) h1) (Dk w ifx _) (Ci (hI.vals (26, 25, Br ifx) (by simp [valT]) h2) rfl) ?_
   rintro _ w1 ⟨rfl, k1⟩
   refine AJ ?_
   exact Am (p := (27, 26, Ap 10)) hI (by simp [valT]) k1
  | 28, _, ho, hL, haft =>
   obtain rfl := Option.some.inj ho
   have h0 : L 0 = true := Aj (j := 0) (by kernel_rfl) haft
   have h1 : L 27 = true := Aj (j := 27) (by kernel_rfl) haft
   obtain ⟨r, M, hr, hlr, hM, hm⟩ := hI.map h0
   refine Bl (x := 10) (y := Ap 10) hr rfl (hI.vals (27, 26, Ap 10) (by simp [valT]) h1) hM (hI.none (q := (28, 10, Ap 10)) (by simp [insT]) hL hm) (fun w1 k1 z1 m1 => AJ ?_)
   exact BW (q := (28, 10, Ap 10)) hI (by simp [insT]) hr hlr hm k1 m1 h0
  | 29, _, ho, hL, haft =>
   obtain rfl := Option.some.inj ho
   refine Cr (v := fn1) hI.p3 (AJ ?_)
   exact Am (p := (29, 27, fn1)) hI (by simp [valT]) (Ext.refl _)
  | 30, _, ho, hL, haft =>
   obtain rfl := Option.some.inj ho
   refine AU hI.p1 (hB1.keep hI.ext (by simp)) rfl (AJ ?_)
   exact Am (p := (30, 28, Br pfx)) hI (by simp [valT]) (Ext.refl _)
  | 31, _, ho, hL, haft =>
   obtain rfl := Option.some.inj ho
   have h1 : L 29 = true := Aj (j := 29) (by kernel_rfl) haft
   have h2 : L 30 = true := Aj (j := 30) (by kernel_rfl) haft
   refine CC (v1 := []) (v2 := []) (vs := [Br pfx, AI [70, 32]]) (hI.vals (29, 27, fn1) (by simp [valT]) h1) (Dk w pfx _) (Ci (hI.vals (30, 28, Br pfx) (by simp [valT]) h2) rfl) ?_
   rintro _ w1 ⟨rfl, k1⟩
   refine AJ ?_
   exact Am (p := (31, 29, Ap 11)) hI (by simp [valT]) k1
  | 32, _, ho, hL, haft =>
   obtain rfl := Option.some.inj ho
   have h0 : L 0 = true := Aj (j := 0) (by kernel_rfl) haft
   have h1 : L 31 = true := Aj (j := 31) (by kernel_rfl) haft
   obtain ⟨r, M, hr, hlr, hM, hm⟩ := hI.map h0
   refine Bl (x := 11) (y := Ap 11) hr rfl (hI.vals (31, 29, Ap 11) (by simp [valT]) h1) hM (hI.none (q := (32, 11, Ap 11)) (by simp [insT]) hL hm) (fun w1 k1 z1 m1 => AJ ?_)
   exact BW (q := (32, 11, Ap 11)) hI (by simp [insT]) hr hlr hm k1 m1 h0
  | 33, _, ho, hL, haft =>
   obtain rfl := Option.some.inj ho
   refine Cr (v := fn1) hI.p3 (AJ ?_)
   exact Am (p := (33, 30, fn1)) hI (by simp [valT]) (Ext.refl _)
  | 34, _, ho, hL, haft =>
   obtain rfl := Option.some.inj ho
   refine AU hI.p1 (hB1.keep hI.ext (by simp)) rfl (AJ ?_)
   exact Am (p := (34, 31, Br pfx)) hI (by simp [valT]) (Ext.refl _)
  | 35, _, ho, hL, haft =>
   obtain rfl := Option.some.inj ho
   have h1 : L 33 = true := Aj (j := 33) (by kernel_rfl) haft
   have h2 : L 34 = true := Aj (j := 34) (by kernel_rfl) haft
   refine CC (v1 := []) (v2 := []) (vs := [Br pfx, AI [71, 32]]) (hI.vals (33, 30, fn1) (by simp [valT]) h1) (Dk w pfx _) (Ci (hI.vals (34, 31, Br pfx) (by simp [valT]) h2) rfl) ?_
   rintro _ w1 ⟨rfl, k1⟩
   refine AJ ?_
   exact Am (p := (35, 32, Ap 12)) hI (by simp [valT]) k1
  | 36, _, ho, hL, haft =>
   obtain rfl := Option.some.inj ho
   have h0 : L 0 = true := Aj (j := 0) (by kernel_rfl) haft
   have h1 : L 35 = true := Aj (j := 35) (by kernel_rfl) haft
   obtain ⟨r, M, hr, hlr, hM, hm⟩ := hI.map h0
   refine Bl (x := 12) (y := Ap 12) hr rfl (hI.vals (35, 32, Ap 12) (by simp [valT]) h1) hM (hI.none (q := (36, 12, Ap 12)) (by simp [insT]) hL hm) (fun w1 k1 z1 m1 => AJ ?_)
   exact BW (q := (36, 12, Ap 12)) hI (by simp [insT]) hr hlr hm k1 m1 h0
  | 37, _, ho, hL, haft =>
   obtain rfl := Option.some.inj ho
   refine Cr (v := fn3) hI.p5 (AJ ?_)
   exact Am (p := (37, 33, fn3)) hI (by simp [valT]) (Ext.refl _)
  | 38, _, ho, hL, haft =>
   obtain rfl := Option.some.inj ho
   refine AU hI.p1 (hB1.keep hI.ext (by simp)) rfl (AJ ?_)
   exact Am (p := (38, 34, Br pfx)) hI (by simp [valT]) (Ext.refl _)
  | 39, _, ho, hL, haft =>
   obtain rfl := Option.some.inj ho
   have h1 : L 37 = true := Aj (j := 37) (by kernel_rfl) haft
   have h2 : L 38 = true := Aj (j := 38) (by kernel_rfl) haft
   refine CC (v1 := []) (v2 := []) (vs := [Br pfx, AI [70, 91]]) (hI.vals (37, 33, fn3) (by simp [valT]) h1) (bounded_ok w pfx _) (Ci (hI.vals (38, 34, Br pfx) (by simp [valT]) h2) rfl) ?_
   rintro _ w1 ⟨rfl, k1⟩
   refine AJ ?_
   exact Am (p := (39, 35, Ap 13)) hI (by simp [valT]) k1
  | 40, _, ho, hL, haft =>
   obtain rfl := Option.some.inj ho
   have h0 : L 0 = true := Aj (j := 0) (by kernel_rfl) haft
   have h1 : L 39 = true := Aj (j := 39) (by kernel_rfl) haft
   obtain ⟨r, M, hr, hlr, hM, hm⟩ := hI.map h0
   refine Bl (x := 13) (y := Ap 13) hr rfl (hI.vals (39, 35, Ap 13) (by simp [valT]) h1) hM (hI.none (q := (40, 13, Ap 13)) (by simp [insT]) hL hm) (fun w1 k1 z1 m1 => AJ ?_)
   exact BW (q := (40, 13, Ap 13)) hI (by simp [insT]) hr hlr hm k1 m1 h0
  | 41, _, ho, hL, haft =>
   obtain rfl := Option.some.inj ho
   refine Cr (v := fn3) hI.p5 (AJ ?_)
   exact Am (p := (41, 36, fn3)) hI (by simp [valT]) (Ext.refl _)
  | 42, _, ho, hL, haft =>
   obtain rfl := Option.some.inj ho
   refine AU hI.p1 (hB1.keep hI.ext (by simp)) rfl (AJ ?_)
   exact Am (p := (42, 37, Br pfx)) hI (by simp [valT]) (Ext.refl _)
  | 43, _, ho, hL, haft =>
   obtain rfl := Option.some.inj ho
   have h1 : L 41 = true := Aj (j := 41) (by kernel_rfl) haft
   have h2 : L 42 = true := Aj (j := 42) (by kernel_rfl) haft
   refine CC (v1 := []) (v2 := []) (vs := [Br pfx, AI [71, 91]]) (hI.vals (41, 36, fn3) (by simp [valT]) h1) (bounded_ok w pfx _) (Ci (hI.vals (42, 37, Br pfx) (by simp [valT]) h2) rfl) ?_
   rintro _ w1 ⟨rfl, k1⟩
   refine AJ ?_
   exact Am (p := (43, 38, Ap 14)) hI (by simp [valT]) k1
  | 44, _, ho, hL, haft =>
   obtain rfl := Option.some.inj ho
   have h0 : L 0 = true := Aj (j := 0) (by kernel_rfl) haft
   have h1 : L 43 = true := Aj (j := 43) (by kernel_rfl) haft
   obtain ⟨r, M, hr, hlr, hM, hm⟩ := hI.map h0
   refine Bl (x := 14) (y := Ap 14) hr rfl (hI.vals (43, 38, Ap 14) (by simp [valT]) h1) hM (hI.none (q := (44, 14, Ap 14)) (by simp [insT]) hL hm) (fun w1 k1 z1 m1 => AJ ?_)
   exact BW (q := (44, 14, Ap 14)) hI (by simp [insT]) hr hlr hm k1 m1 h0
  | 45, _, ho, hL, haft =>
   obtain rfl := Option.some.inj ho
   refine Cr (v := fn2) hI.p4 (AJ ?_)
   exact Am (p := (45, 39, fn2)) hI (by simp [valT]) (Ext.refl _)
  | 46, _, ho, hL, haft =>
   obtain rfl := Option.some.inj ho
   refine AU hI.p1 (hB1.keep hI.ext (by simp)) rfl (AJ ?_)
   exact Am (p := (46, 40, Br pfx)) hI (by simp [valT]) (Ext.refl _)
  | 47, _, ho, hL, haft =>
   obtain rfl := Option.some.inj ho
   have h1 : L 45 = true := Aj (j := 45) (by kernel_rfl) haft
   have h2 : L 46 = true := Aj (j := 46) (by kernel_rfl) haft
   refine CC (v1 := []) (v2 := []) (vs := [Br pfx, AI [89, 32], .int .i64 1, .int .i64 0]) (hI.vals (45, 39, fn2) (by simp [valT]) h1) (valued_ok w pfx _ 1 0) (Ci (hI.vals (46, 40, Br pfx) (by simp [valT]) h2) rfl) ?_
   rintro _ w1 ⟨rfl, k1⟩
   refine AJ ?_
   exact Am (p := (47, 41, Ap 15)) hI (by simp [valT]) k1
  | 48, _, ho, hL, haft =>
   obtain rfl := Option.some.inj ho
   have h0 : L 0 = true := Aj (j := 0) (by kernel_rfl) haft
   have h1 : L 47 = true := Aj (j := 47) (by kernel_rfl) haft
   obtain ⟨r, M, hr, hlr, hM, hm⟩ := hI.map h0
   refine Bl (x := 15) (y := Ap 15) hr rfl (hI.vals (47, 41, Ap 15) (by simp [valT]) h1) hM (hI.none (q := (48, 15, Ap 15)) (by simp [insT]) hL hm) (fun w1 k1 z1 m1 => AJ ?_)
   exact BW (q := (48, 15, Ap 15)) hI (by simp [insT]) hr hlr hm k1 m1 h0
  | 49, _, ho, hL, haft =>
   obtain rfl := Option.some.inj ho
   refine Cr (v := fn2) hI.p4 (AJ ?_)
   exact Am (p := (49, 42, fn2)) hI (by simp [valT]) (Ext.refl _)
  | 50, _, ho, hL, haft =>
   obtain rfl := Option.some.inj ho
   refine AU hI.p2 (hB2.keep hI.ext (by simp)) rfl (AJ ?_)
   exact Am (p := (50, 43, Br ifx)) hI (by simp [valT]) (Ext.refl _)
  | 51, _, ho, hL, haft =>
   obtain rfl := Option.some.inj ho
   have h1 : L 49 = true := Aj (j := 49) (by kernel_rfl) haft
   have h2 : L 50 = true := Aj (j := 50) (by kernel_rfl) haft
   refine CC (v1 := []) (v2 := []) (vs := [Br ifx, AI [32, 83], .int .i64 9999, .int .i64 0]) (hI.vals (49, 42, fn2) (by simp [valT]) h1) (valued_ok w ifx _ 9999 0) (Ci (hI.vals (50, 43, Br ifx) (by simp [valT]) h2) rfl) ?_
   rintro _ w1 ⟨rfl, k1⟩
   refine AJ ?_
   exact Am (p := (51, 44, Ap 16)) hI (by simp [valT]) k1
  | 52, _, ho, hL, haft =>
   obtain rfl := Option.some.inj ho
   have h0 : L 0 = true := Aj (j := 0) (by kernel_rfl) haft
   have h1 : L 51 = true := Aj (j := 51) (by kernel_rfl) haft
   obtain ⟨r, M, hr, hlr, hM, hm⟩ := hI.map h0
   refine Bl (x := 16) (y := Ap 16) hr rfl (hI.vals (51, 44, Ap 16) (by simp [valT]) h1) hM (hI.none (q := (52, 16, Ap 16)) (by simp [insT]) hL hm) (fun w1 k1 z1 m1 => AJ ?_)
   exact BW (q := (52, 16, Ap 16)) hI (by simp [insT]) hr hlr hm k1 m1 h0
  | 53, _, ho, hL, haft =>
   obtain rfl := Option.some.inj ho
   refine Cr (v := fn2) hI.p4 (AJ ?_)
   exact Am (p := (53, 45, fn2)) hI (by simp [valT]) (Ext.refl _)
  | 54, _, ho, hL, haft =>
   obtain rfl := Option.some.inj ho
   refine AU hI.p2 (hB2.keep hI.ext (by simp)) rfl (AJ ?_)
   exact Am (p := (54, 46, Br ifx)) hI (by simp [valT]) (Ext.refl _)
  | 55, _, ho, hL, haft =>
   obtain rfl := Option.some.inj ho
   have h1 : L 53 = true := Aj (j := 53) (by kernel_rfl) haft
   have h2 : L 54 = true := Aj (j := 54) (by kernel_rfl) haft
   refine CC (v1 := []) (v2 := []) (vs := [Br ifx, AI [32, 84], .int .i64 9999, .int .i64 1]) (hI.vals (53, 45, fn2) (by simp [valT]) h1) (valued_ok w ifx _ 9999 1) (Ci (hI.vals (54, 46, Br ifx) (by simp [valT]) h2) rfl) ?_
   rintro _ w1 ⟨rfl, k1⟩
   refine AJ ?_
   exact Am (p := (55, 47, Ap 17)) hI (by simp [valT]) k1
  | 56, _, ho, hL, haft =>
   obtain rfl := Option.some.inj ho
   have h0 : L 0 = true := Aj (j := 0) (by kernel_rfl) haft
   have h1 : L 55 = true := Aj (j := 55) (by kernel_rfl) haft
   obtain ⟨r, M, hr, hlr, hM, hm⟩ := hI.map h0
   refine Bl (x := 17) (y := Ap 17) hr rfl (hI.vals (55, 47, Ap 17) (by simp [valT]) h1) hM (hI.none (q := (56, 17, Ap 17)) (by simp [insT]) hL hm) (fun w1 k1 z1 m1 => AJ ?_)
   exact BW (q := (56, 17, Ap 17)) hI (by simp [insT]) hr hlr hm k1 m1 h0
  | 57, _, ho, hL, haft =>
   obtain rfl := Option.some.inj ho
   refine Cr (v := fn1) hI.p3 (AJ ?_)
   exact Am (p := (57, 48, fn1)) hI (by simp [valT]) (Ext.refl _)
  | 58, _, ho, hL, haft =>
   obtain rfl := Option.some.inj ho
   refine AU hI.p1 (hB1.keep hI.ext (by simp)) rfl (AJ ?_)
   exact Am (p := (58, 49, Br pfx)) hI (by simp [valT]) (Ext.refl _)
  | 59, _, ho, hL, haft =>
   obtain rfl := Option.some.inj ho
   have h1 : L 57 = true := Aj (j := 57) (by kernel_rfl) haft
   have h2 : L 58 = true := Aj (j := 58) (by kernel_rfl) haft
   refine CC (v1 := []) (v2 := []) (vs := [Br pfx, AI [79, 32]]) (hI.vals (57, 48, fn1) (by simp [valT]) h1) (Dk w pfx _) (Ci (hI.vals (58, 49, Br pfx) (by simp [valT]) h2) rfl) ?_
   rintro _ w1 ⟨rfl, k1⟩
   refine AJ ?_
   exact Am (p := (59, 50, Ap 18)) hI (by simp [valT]) k1
  | 60, _, ho, hL, haft =>
   obtain rfl := Option.some.inj ho
   have h0 : L 0 = true := Aj (j := 0) (by kernel_rfl) haft
   have h1 : L 59 = true := Aj (j := 59) (by kernel_rfl) haft
   obtain ⟨r, M, hr, hlr, hM, hm⟩ := hI.map h0
   refine Bl (x := 18) (y := Ap 18) hr rfl (hI.vals (59, 50, Ap 18) (by simp [valT]) h1) hM (hI.none (q := (60, 18, Ap 18)) (by simp [insT]) hL hm) (fun w1 k1 z1 m1 => AJ ?_)
   exact BW (q := (60, 18, Ap 18)) hI (by simp [insT]) hr hlr hm k1 m1 h0
  | 61, _, ho, hL, haft =>
   obtain rfl := Option.some.inj ho
   refine Cr (v := fn1) hI.p3 (AJ ?_)
   exact Am (p := (61, 51, fn1)) hI (by simp [valT]) (Ext.refl _)
  | 62, _, ho, hL, haft =>
   obtain rfl := Option.some.inj ho
   refine AU hI.p1 (hB1.keep hI.ext (by simp)) rfl (AJ ?_)
   exact Am (p := (62, 52, Br pfx)) hI (by simp [valT]) (Ext.refl _)
  | 63, _, ho, hL, haft =>
   obtain rfl := Option.some.inj ho
   have h1 : L 61 = true := Aj (j := 61) (by kernel_rfl) haft
   have h2 : L 62 = true := Aj (j := 62) (by kernel_rfl) haft
   refine CC (v1 := []) (v2 := []) (vs := [Br pfx, AI [72, 32]]) (hI.vals (61, 51, fn1) (by simp [valT]) h1) (Dk w pfx _) (Ci (hI.vals (62, 52, Br pfx) (by simp [valT]) h2) rfl) ?_
   rintro _ w1 ⟨rfl, k1⟩
   refine AJ ?_
   exact Am (p := (63, 53, Ap 19)) hI (by simp [valT]) k1
  | 64, _, ho, hL, haft =>
   obtain rfl := Option.some.inj ho
   have h0 : L 0 = true := Aj (j := 0) (by kernel_rfl) haft
   have h1 : L 63 = true := Aj (j := 63) (by kernel_rfl) haft
   obtain ⟨r, M, hr, hlr, hM, hm⟩ := hI.map h0
   refine Bl (x := 19) (y := Ap 19) hr rfl (hI.vals (63, 53, Ap 19) (by simp [valT]) h1) hM (hI.none (q := (64, 19, Ap 19)) (by simp [insT]) hL hm) (fun w1 k1 z1 m1 => AJ ?_)
   exact BW (q := (64, 19, Ap 19)) hI (by simp [insT]) hr hlr hm k1 m1 h0
  | 65, _, ho, hL, haft =>
   obtain rfl := Option.some.inj ho
   have h0 : L 0 = true := Aj (j := 0) (by kernel_rfl) haft
   refine Cr (v := f 8) rfl (AJ ?_)
   exact styInv_65 hI h0
  | 66, _, ho, hL, haft =>
   obtain rfl := Option.some.inj ho
   have h0 : L 65 = true := Aj (j := 65) (by kernel_rfl) haft
   refine AC ?_
   refine Cr (v := f 54) rfl (AJ ?_)
   exact styInv_66 hI h0
 ·intro L f ds w hI hall
  obtain ⟨h54, _⟩ := hI.l66 (hall 66 (by decide))
  obtain ⟨r, M, e1, e2, e3, e4⟩ := hI.map (hall 0 (by decide))
  repeat refine nx rfl ?_
  obtain rfl := hI.ds
  refine AQ rfl ⟨r, by rw [h54, e1], k2.trans hI.ext, Nat.le_trans k2.size e2, M, e3, fun op => ?_⟩
  cases hs : Bn op with
  | none =>
   refine vlookup_none fun p hp e => ?_
   obtain ⟨q, hq, _, h2, _⟩ := (e4 p.1 p.2).1 hp
   have := ins_sty q hq
   rw [← h2, e, hs] at this
   cases this
  | some s =>
   obtain ⟨q, hq, hk⟩ := sty_ins hs
   have hv := ins_sty q hq
   rw [hk, hs] at hv
   have hv : Br s = q.2.2 := Option.some.inj hv
   have hm : (op, Br s) ∈ M := (e4 _ _).2 ⟨q, hq, hall _ (i_ops q hq).1, hk.symm, hv⟩
   exact vlookup_at (nodup_vint e3) hm
end Go.Proofs.YtfcgdbmoncnibaaGreatDoor
namespace Go.Proofs.YtfcgdbmoncnibaaGreatDoor
open Go.RowKit
set_option linter.unusedVariables false
structure GP (w : World) : Prop where
 gk : GK w
 pow : Lib.TabIs Tryz.prog w "internal/strconv.uint64pow10" .u64 Lib.pow10Tab
theorem pow_block {w : World} (h : Lib.TabIs Tryz.prog w "internal/strconv.uint64pow10" .u64 Lib.pow10Tab) : ∃ g, Tryz.prog.globalNamed "internal/strconv.uint64pow10" = some g ∧ g < 10 ∧ g < w.heap.size := by
 have hg : Tryz.prog.globalNamed "internal/strconv.uint64pow10" = some 7 := by kernel_rfl
 refine ⟨_, hg, by decide, ?_⟩
 unfold Lib.TabIs World.var? at h
 rw [hg] at h
 simp only [Option.bind_some] at h
 split at h
 ·rename_i heq; exact (Array.getElem?_eq_some_iff.1 heq).1
 ·cases h
theorem GP.keep {X : List Nat} {w w' : World} (h : GP w) (k : Keep X w w') (hX : ∀ x ∈ X, 10 ≤ x) : GP w' := by
 refine ⟨h.gk.keep k hX, ?_⟩
 obtain ⟨g, hg, h1, h2⟩ := pow_block h.pow
 have hp := h.pow
 unfold Lib.TabIs World.var? at hp ⊢
 rw [hg] at hp ⊢
 simp only [Option.bind_some] at hp ⊢
 rw [k.block g h2 (fun hx => by have := hX _ hx; omega)]
 exact hp
theorem GP.ext {w w' : World} (h : GP w) (k : Ext w w') : GP w' := h.keep k fun x hx => by cases hx
theorem ext_grow {w : World} {k : Nat} {os : Array Obj} : Ext w (Go.Sort.grow (w.drewN k) os) := by
 refine ⟨rfl, rfl, rfl, by simp [Go.Sort.grow, World.drewN], fun b hb _ => ?_, fun h => h.elim⟩
 simp only [Go.Sort.grow, World.drewN]
 rw [Array.getElem?_append_left hb]
theorem itoa_digs {n : Int} (h : 0 ≤ n) : Lib.itoa n = CN n := by
 unfold Lib.itoa CN
 rw [if_neg (by omega)]
 have : ∀ (m k : Nat), k ≤ m → Lib.decDigits k = digs k := by
  intro m
  induction m with
  | zero =>
   intro k hk
   rw [Lib.decDigits, dif_pos (by omega), CE (by omega)]
  | succ m ih =>
   intro k hk
   by_cases h1 : k < 10
   ·rw [Lib.decDigits, dif_pos h1, CE h1]
   ·rw [Lib.decDigits, dif_neg h1, digs_big (by omega), ih (k / 10) (by omega)]
 exact this _ _ (Nat.le_refl _)
theorem itoa_ok (w : World) (n : Int) (h0 : 0 ≤ n) (h1 : n ≤ 9999) (hG : GP w) : Fn Tryz.prog 154 [.int .i64 n] w fun v w' => v = AI (CN n) ∧ Ext w w' := by
 refine Calls.mono (Tryz.strconv_Itoa n (by omega) (by omega) w hG.pow) ?_
 rintro e w' ⟨rfl, k, os, rfl⟩
 rw [itoa_digs h0]
 exact ⟨rfl, ext_grow⟩
def unp : List PanicEntry := [{ v := .iface 186 (.agg #[]), recovered := false }]
theorem B4 (w : World) (b : Bool) : FnP Tryz.prog 76 [.bool b] w (fun v w' => v = .tuple #[] ∧ b = true ∧ w' = w) (fun ch w' => ch = unp ∧ b = false ∧ w' = w) := by
 refine Ao Tryz.func76 rfl Tryz.ntmps76 (Nat.le_of_ble_eq_true rfl) (by kernel_rfl) ?_
 repeat refine nx rfl ?_
 refine AA (AD rfl (CF rfl (AJ ?_)))
 cases b with
 | true =>
  repeat first | refine nx rfl ?_ | refine nf rfl ?_
  exact Az rfl ⟨rfl, rfl, rfl⟩
 | false =>
  repeat refine nx rfl ?_
  (refine AA (Ac (by rfl) (by rfl) ?_) <;> refine DP (DQ rfl ?_))
  repeat refine nx rfl ?_
  exact AY ⟨rfl, rfl, rfl⟩
theorem wname_ok (w : World) (s : List UInt8) (hG : GK w) : FnP Tryz.prog 83 [AI s] w (fun v w' => v = AI s ∧ Bh s = true ∧ w' = w) (fun ch w' => ch = unp ∧ Bh s = false ∧ w' = w) := by
 refine Ao Tryz.func83 rfl Tryz.ntmps83 (Nat.le_of_ble_eq_true rfl) (by kernel_rfl) ?_
 repeat refine nx rfl ?_
 refine AA (AC (AX rfl ?_))
 repeat refine nx rfl ?_
 refine AA (AX rfl ?_)
 refine AO (sigName_ok s w hG) rfl ?_
 rintro v w1 ⟨rfl, rfl⟩
 refine Aa (B4 w1 (Bh s)) rfl ?_ ?_
 rotate_left
 ·rintro ch w2 ⟨rfl, hb, rfl⟩
  repeat refine nx rfl ?_
  exact AY ⟨rfl, hb, rfl⟩
 rintro v w2 ⟨rfl, hb, rfl⟩
 repeat refine nx rfl ?_
 refine AA (AX rfl (AC (AX rfl ?_)))
 repeat refine nx rfl ?_
 exact AQ rfl ⟨rfl, hb, rfl⟩
def numB (n : Int) : Bool := decide (0 ≤ n) && decide (n ≤ 9999)
theorem wnumber_ok (w : World) (n : Int) (hG : GP w) : FnP Tryz.prog 127 [.int .i64 n] w (fun v w' => v = AI (CN n) ∧ numB n = true ∧ Ext w w') (fun ch w' => ch = unp ∧ numB n = false ∧ w' = w) := by
 refine Ao Tryz.func127 rfl Tryz.ntmps127 (Nat.le_of_ble_eq_true rfl) (by kernel_rfl) ?_
 repeat refine nx rfl ?_
 refine AA (AC (AX rfl ?_))
 repeat refine nx rfl ?_
 by_cases h0 : 0 ≤ n
 ·by_cases h1 : n ≤ 9999
  ·refine AA (AH rfl (W_geqT rfl rfl (by omega) (AD rfl (AE rfl (AH rfl (AE rfl (W_leqT rfl rfl (by omega) (AN rfl (AD rfl ?_)))))))))
   refine Aa (B4 w true) rfl ?_ ?_
   rotate_left
   ·rintro ch w2 ⟨_, hb, _⟩; cases hb
   rintro v w2 ⟨rfl, hb, rfl⟩
   repeat refine nx rfl ?_
   refine AA (AH rfl ?_)
   refine AO (itoa_ok w2 n h0 h1 hG) rfl ?_
   rintro v w3 ⟨rfl, k3⟩
   refine AC (AX rfl ?_)
   repeat refine nx rfl ?_
   exact AQ rfl ⟨rfl, by simp [numB, h0, h1], k3⟩
  ·refine AA (AH rfl (W_geqT rfl rfl (by omega) (AD rfl (AE rfl (AH rfl (AE rfl (W_leqF rfl rfl (by omega) (AN rfl (AD rfl ?_)))))))))
   refine Aa (B4 w false) rfl ?_ ?_
   ·rintro v w2 ⟨_, hb, _⟩; cases hb
   rintro ch w2 ⟨rfl, hb, rfl⟩
   repeat refine nx rfl ?_
   exact AY ⟨rfl, by simp [numB, h1], rfl⟩
 ·refine AA (AH rfl (W_geqF rfl rfl (by omega) (AD rfl (AM rfl (AM rfl (AS rfl (AD rfl ?_)))))))
  refine Aa (B4 w false) rfl ?_ ?_
  ·rintro v w2 ⟨_, hb, _⟩; cases hb
  rintro ch w2 ⟨rfl, hb, rfl⟩
  repeat refine nx rfl ?_
  exact AY ⟨rfl, by simp [numB, h0], rfl⟩
end Go.Proofs.YtfcgdbmoncnibaaGreatDoor
namespace Go.Proofs.YtfcgdbmoncnibaaGreatDoor
open Go.RowKit
set_option linter.unusedVariables false
def nodeC (s : Sty) (f : Fml) : Bool := decide (s.least ≤ f.args.length ∧ f.args.length ≤ s.most) && decide (0 ≤ f.val ∧ f.val ≤ (s.val : Int)) && decide (0 ≤ f.bound ∧ f.bound ≤ (s.bound : Int)) && (decide (f.op = 3) || f.name.isEmpty)
theorem check_ok (w : World) (s : Sty) (b o : Nat) (f : Fml) (a : Option Addr) (c : Nat) (hcl : Cells w b o (fcC f (.slice a f.args.length c))) : FnP Tryz.prog 123 [Br s, .pointer (some ⟨b, o, none⟩)] w
  (fun v w' => v = .tuple #[] ∧ Ext w w' ∧ nodeC s f = true) (fun ch w' => ch = unp ∧ Ext w w' ∧ nodeC s f = false) := by
 refine Ao Tryz.func123 rfl Tryz.ntmps123 (Nat.le_of_ble_eq_true rfl) (by kernel_rfl) ?_
 repeat refine nx rfl ?_
 (refine AA ?_; refine B9 (L := CR s) rfl (fun w1 n1 => AJ ?_))
 have b1 := n1.blk
 have k1 := n1.keep
 repeat refine nx rfl ?_
 by_cases q1 : s.least ≤ f.args.length
 case neg =>
  refine B5 (.read 0 (.read 1 (.read 2 (.read 3 (.read 4 (.read 5 (.read 6 (.read 7 (.read 8 (.read 9 (.read 10 (.read 11 (.read 12 (.read 13 (.read 14 (.read 15 (.read 16 (.read 17 (.alt 18 .done .stop))))))))))))))))))) BC (by kernel_rfl) (by repeat (first | exact BZ | refine BJ ?_)) (fun wd kd ed => ⟨Ext wd, ?_, ?_⟩)
  ·exact Ext.refl _
  have bd := b1.keep kd (by simp)
  have fa : ∀ W, Ext wd W → W.cell? ⟨b, o + 4, none⟩ = some (.slice a f.args.length c) := fun W e => ((k1.trans kd).trans e).cell (hcl 4 _ rfl) (by simp)
  have fb : ∀ W, Ext wd W → W.cell? ⟨b, o + 2, none⟩ = some (.int .i64 f.val) := fun W e => ((k1.trans kd).trans e).cell (hcl 2 _ rfl) (by simp)
  have fc : ∀ W, Ext wd W → W.cell? ⟨b, o + 3, none⟩ = some (.int .i64 f.bound) := fun W e => ((k1.trans kd).trans e).cell (hcl 3 _ rfl) (by simp)
  have g4 : ∀ W, Ext wd W → W.cell? ⟨w.heap.size, 0 + 4, none⟩ = some (.int .i64 (s.least : Int)) := fun W e => (bd.keep e (by simp)).cell rfl
  have g5 : ∀ W, Ext wd W → W.cell? ⟨w.heap.size, 0 + 5, none⟩ = some (.int .i64 (s.most : Int)) := fun W e => (bd.keep e (by simp)).cell rfl
  have g6 : ∀ W, Ext wd W → W.cell? ⟨w.heap.size, 0 + 6, none⟩ = some (.int .i64 (s.val : Int)) := fun W e => (bd.keep e (by simp)).cell rfl
  have g7 : ∀ W, Ext wd W → W.cell? ⟨w.heap.size, 0 + 7, none⟩ = some (.int .i64 (s.bound : Int)) := fun W e => (bd.keep e (by simp)).cell rfl
  refine D_R rfl rfl (fun W hW => AK rfl Z3) (D_R rfl rfl (fun W hW => AF rfl Z3) (D_R rfl rfl (fun W hW => AB rfl Z3) (D_R rfl rfl (fun W hW => AG rfl (fa W hW) Z3) (D_R rfl rfl (fun W hW => At rfl Z3) (D_R rfl rfl (fun W hW => AB rfl Z3) (D_R rfl rfl (fun W hW => AG rfl (g4 W hW) Z3) (D_geqF rfl rfl rfl rfl (by omega) (D_R rfl rfl (fun W hW => AD rfl Z3) (Ad rfl rfl rfl rfl (Ad rfl rfl rfl rfl (Ad rfl rfl rfl rfl (Ad rfl rfl rfl rfl (Ad rfl rfl rfl rfl (Ad rfl rfl rfl rfl (Ad rfl rfl rfl rfl (Ad rfl rfl rfl rfl (D_R rfl rfl (fun W hW => AS rfl (AD rfl Z3)) ?_)))))))))))))))))
  refine D_E rfl ?_
  refine Aa (B4 wd false) rfl ?_ ?_
  ·rintro v w2 ⟨_, hb, _⟩; cases hb
  rintro ch w2 ⟨rfl, hb, rfl⟩
  repeat refine nx rfl ?_
  exact AY ⟨rfl, k1.trans kd, by simp [nodeC, q1]⟩
 by_cases q2 : f.args.length ≤ s.most
 case neg =>
  refine B5 (.read 0 (.read 1 (.read 2 (.read 3 (.read 4 (.read 5 (.read 6 (.read 7 (.read 8 (.read 9 (.read 10 (.read 11 (.read 12 (.read 13 (.read 14 (.read 15 (.read 16 (.read 17 (.alt 18 .done .stop))))))))))))))))))) BC (by kernel_rfl) (by repeat (first | exact BZ | refine BJ ?_)) (fun wd kd ed => ⟨Ext wd, ?_, ?_⟩)
  ·exact Ext.refl _
  have bd := b1.keep kd (by simp)
  have fa : ∀ W, Ext wd W → W.cell? ⟨b, o + 4, none⟩ = some (.slice a f.args.length c) := fun W e => ((k1.trans kd).trans e).cell (hcl 4 _ rfl) (by simp)
  have fb : ∀ W, Ext wd W → W.cell? ⟨b, o + 2, none⟩ = some (.int .i64 f.val) := fun W e => ((k1.trans kd).trans e).cell (hcl 2 _ rfl) (by simp)
  have fc : ∀ W, Ext wd W → W.cell? ⟨b, o + 3, none⟩ = some (.int .i64 f.bound) := fun W e => ((k1.trans kd).trans e).cell (hcl 3 _ rfl) (by simp)
  have g4 : ∀ W, Ext wd W → W.cell? ⟨w.heap.size, 0 + 4, none⟩ = some (.int .i64 (s.least : Int)) := fun W e => (bd.keep e (by simp)).cell rfl
  have g5 : ∀ W, Ext wd W → W.cell? ⟨w.heap.size, 0 + 5, none⟩ = some (.int .i64 (s.most : Int)) := fun W e => (bd.keep e (by simp)).cell rfl
  have g6 : ∀ W, Ext wd W → W.cell? ⟨w.heap.size, 0 + 6, none⟩ = some (.int .i64 (s.val : Int)) := fun W e => (bd.keep e (by simp)).cell rfl
  have g7 : ∀ W, Ext wd W → W.cell? ⟨w.heap.size, 0 + 7, none⟩ = some (.int .i64 (s.bound : Int)) := fun W e => (bd.keep e (by simp)).cell rfl
  refine D_R rfl rfl (fun W hW => AK rfl Z3) (D_R rfl rfl (fun W hW => AF rfl Z3) (D_R rfl rfl (fun W hW => AB rfl Z3) (D_R rfl rfl (fun W hW => AG rfl (fa W hW) Z3) (D_R rfl rfl (fun W hW => At rfl Z3) (D_R rfl rfl (fun W hW => AB rfl Z3) (D_R rfl rfl (fun W hW => AG rfl (g4 W hW) Z3) (D_geqT rfl rfl rfl rfl (by omega) (D_R rfl rfl (fun W hW => AD rfl Z3) (D_R rfl rfl (fun W hW => AE rfl (AK rfl Z3)) (D_R rfl rfl (fun W hW => AE rfl (AF rfl Z3)) (D_R rfl rfl (fun W hW => AE rfl (AB rfl Z3)) (D_R rfl rfl (fun W hW => AE rfl (AG rfl (fa W hW) Z3)) (D_R rfl rfl (fun W hW => AE rfl (At rfl Z3)) (D_R rfl rfl (fun W hW => AE rfl (AB rfl Z3)) (D_R rfl rfl (fun W hW => AE rfl (AG rfl (g5 W hW) Z3)) (D_leqF rfl rfl rfl rfl (by omega) (D_R rfl rfl (fun W hW => AN rfl (AD rfl Z3)) ?_)))))))))))))))))
  refine D_E rfl ?_
  refine Aa (B4 wd false) rfl ?_ ?_
  ·rintro v w2 ⟨_, hb, _⟩; cases hb
  rintro ch w2 ⟨rfl, hb, rfl⟩
  repeat refine nx rfl ?_
  exact AY ⟨rfl, k1.trans kd, by simp [nodeC, q2]⟩
 refine B5 (.read 0 (.read 1 (.read 2 (.read 3 (.read 4 (.read 5 (.read 6 (.read 7 (.read 8 (.read 9 (.read 10 (.read 11 (.read 12 (.read 13 (.read 14 (.read 15 (.read 16 (.read 17 (.alt 18 .done .stop))))))))))))))))))) BC (by kernel_rfl) (by repeat (first | exact BZ | refine BJ ?_)) (fun wd kd ed => ⟨Ext wd, ?_, ?_⟩)
 ·exact Ext.refl _
 have bd := b1.keep kd (by simp)
 have fa : ∀ W, Ext wd W → W.cell? ⟨b, o + 4, none⟩ = some (.slice a f.args.length c) := fun W e => ((k1.trans kd).trans e).cell (hcl 4 _ rfl) (by simp)
 have fb : ∀ W, Ext wd W → W.cell? ⟨b, o + 2, none⟩ = some (.int .i64 f.val) := fun W e => ((k1.trans kd).trans e).cell (hcl 2 _ rfl) (by simp)
 have fc : ∀ W, Ext wd W → W.cell? ⟨b, o + 3, none⟩ = some (.int .i64 f.bound) := fun W e => ((k1.trans kd).trans e).cell (hcl 3 _ rfl) (by simp)
 have g4 : ∀ W, Ext wd W → W.cell? ⟨w.heap.size, 0 + 4, none⟩ = some (.int .i64 (s.least : Int)) := fun W e => (bd.keep e (by simp)).cell rfl
 have g5 : ∀ W, Ext wd W → W.cell? ⟨w.heap.size, 0 + 5, none⟩ = some (.int .i64 (s.most : Int)) := fun W e => (bd.keep e (by simp)).cell rfl
 have g6 : ∀ W, Ext wd W → W.cell? ⟨w.heap.size, 0 + 6, none⟩ = some (.int .i64 (s.val : Int)) := fun W e => (bd.keep e (by simp)).cell rfl
 have g7 : ∀ W, Ext wd W → W.cell? ⟨w.heap.size, 0 + 7, none⟩ = some (.int .i64 (s.bound : Int)) := fun W e => (bd.keep e (by simp)).cell rfl
 refine D_R rfl rfl (fun W hW => AK rfl Z3) (D_R rfl rfl (fun W hW => AF rfl Z3) (D_R rfl rfl (fun W hW => AB rfl Z3) (D_R rfl rfl (fun W hW => AG rfl (fa W hW) Z3) (D_R rfl rfl (fun W hW => At rfl Z3) (D_R rfl rfl (fun W hW => AB rfl Z3) (D_R rfl rfl (fun W hW => AG rfl (g4 W hW) Z3) (D_geqT rfl rfl rfl rfl (by omega) (D_R rfl rfl (fun W hW => AD rfl Z3) (D_R rfl rfl (fun W hW => AE rfl (AK rfl Z3)) (D_R rfl rfl (fun W hW => AE rfl (AF rfl Z3)) (D_R rfl rfl (fun W hW => AE rfl (AB rfl Z3)) (D_R rfl rfl (fun W hW => AE rfl (AG rfl (fa W hW) Z3)) (D_R rfl rfl (fun W hW => AE rfl (At rfl Z3)) (D_R rfl rfl (fun W hW => AE rfl (AB rfl Z3)) (D_R rfl rfl (fun W hW => AE rfl (AG rfl (g5 W hW) Z3)) (D_leqT rfl rfl rfl rfl (by omega) (D_R rfl rfl (fun W hW => AN rfl (AD rfl Z3)) ?_)))))))))))))))))
 refine D_E rfl ?_
 refine Aa (B4 wd true) rfl ?_ ?_
 rotate_left
 ·rintro ch w2 ⟨_, hb, _⟩; cases hb
 rintro v w2 ⟨rfl, hb, rfl⟩
 refine AJ ⟨Ext w2, fun _ e => e, Ext.refl _, ?_⟩
 refine Ax ?_
 repeat refine nx rfl ?_
 replace k1 := k1.trans kd
 clear fa fb fc g4 g5 g6 g7 kd ed b1
 have b1 := bd
 clear bd
 by_cases q3 : 0 ≤ f.val
 case neg =>
  refine B5 (.read 0 (.read 1 (.read 2 (.read 3 (.read 4 (.read 5 (.read 6 (.read 7 (.read 8 (.read 9 (.read 10 (.read 11 (.read 12 (.read 13 (.alt 14 .done .stop))))))))))))))) BC (by kernel_rfl) (by repeat (first | exact BZ | refine BJ ?_)) (fun wd kd ed => ⟨Ext wd, ?_, ?_⟩)
  ·exact Ext.refl _
  have bd := b1.keep kd (by simp)
  have fa : ∀ W, Ext wd W → W.cell? ⟨b, o + 4, none⟩ = some (.slice a f.args.length c) := fun W e => ((k1.trans kd).trans e).cell (hcl 4 _ rfl) (by simp)
  have fb : ∀ W, Ext wd W → W.cell? ⟨b, o + 2, none⟩ = some (.int .i64 f.val) := fun W e => ((k1.trans kd).trans e).cell (hcl 2 _ rfl) (by simp)
  have fc : ∀ W, Ext wd W → W.cell? ⟨b, o + 3, none⟩ = some (.int .i64 f.bound) := fun W e => ((k1.trans kd).trans e).cell (hcl 3 _ rfl) (by simp)
  have g4 : ∀ W, Ext wd W → W.cell? ⟨w.heap.size, 0 + 4, none⟩ = some (.int .i64 (s.least : Int)) := fun W e => (bd.keep e (by simp)).cell rfl
  have g5 : ∀ W, Ext wd W → W.cell? ⟨w.heap.size, 0 + 5, none⟩ = some (.int .i64 (s.most : Int)) := fun W e => (bd.keep e (by simp)).cell rfl
  have g6 : ∀ W, Ext wd W → W.cell? ⟨w.heap.size, 0 + 6, none⟩ = some (.int .i64 (s.val : Int)) := fun W e => (bd.keep e (by simp)).cell rfl
  have g7 : ∀ W, Ext wd W → W.cell? ⟨w.heap.size, 0 + 7, none⟩ = some (.int .i64 (s.bound : Int)) := fun W e => (bd.keep e (by simp)).cell rfl
  refine D_R rfl rfl (fun W hW => AK rfl Z3) (D_R rfl rfl (fun W hW => AF rfl Z3) (D_R rfl rfl (fun W hW => AB rfl Z3) (D_R rfl rfl (fun W hW => AG rfl (fb W hW) Z3) (D_geqF rfl rfl rfl rfl (by omega) (D_R rfl rfl (fun W hW => AD rfl Z3) (Ad rfl rfl rfl rfl (Ad rfl rfl rfl rfl (Ad rfl rfl rfl rfl (Ad rfl rfl rfl rfl (Ad rfl rfl rfl rfl (Ad rfl rfl rfl rfl (Ad rfl rfl rfl rfl (D_R rfl rfl (fun W hW => AS rfl (AD rfl Z3)) ?_)))))))))))))
  refine D_E rfl ?_
  refine Aa (B4 wd false) rfl ?_ ?_
  ·rintro v w2 ⟨_, hb, _⟩; cases hb
  rintro ch w2 ⟨rfl, hb, rfl⟩
  repeat refine nx rfl ?_
  exact AY ⟨rfl, k1.trans kd, by simp [nodeC, q3]⟩
 by_cases q4 : f.val ≤ (s.val : Int)
 case neg =>
  refine B5 (.read 0 (.read 1 (.read 2 (.read 3 (.read 4 (.read 5 (.read 6 (.read 7 (.read 8 (.read 9 (.read 10 (.read 11 (.read 12 (.read 13 (.alt 14 .done .stop))))))))))))))) BC (by kernel_rfl) (by repeat (first | exact BZ | refine BJ ?_)) (fun wd kd ed => ⟨Ext wd, ?_, ?_⟩)
  ·exact Ext.refl _
  have bd := b1.keep kd (by simp)
  have fa : ∀ W, Ext wd W → W.cell? ⟨b, o + 4, none⟩ = some (.slice a f.args.length c) := fun W e => ((k1.trans kd).trans e).cell (hcl 4 _ rfl) (by simp)
  have fb : ∀ W, Ext wd W → W.cell? ⟨b, o + 2, none⟩ = some (.int .i64 f.val) := fun W e => ((k1.trans kd).trans e).cell (hcl 2 _ rfl) (by simp)
  have fc : ∀ W, Ext wd W → W.cell? ⟨b, o + 3, none⟩ = some (.int .i64 f.bound) := fun W e => ((k1.trans kd).trans e).cell (hcl 3 _ rfl) (by simp)
  have g4 : ∀ W, Ext wd W → W.cell? ⟨w.heap.size, 0 + 4, none⟩ = some (.int .i64 (s.least : Int)) := fun W e => (bd.keep e (by simp)).cell rfl
  have g5 : ∀ W, Ext wd W → W.cell? ⟨w.heap.size, 0 + 5, none⟩ = some (.int .i64 (s.most : Int)) := fun W e => (bd.keep e (by simp)).cell rfl
  have g6 : ∀ W, Ext wd W → W.cell? ⟨w.heap.size, 0 + 6, none⟩ = some (.int .i64 (s.val : Int)) := fun W e => (bd.keep e (by simp)).cell rfl
  have g7 : ∀ W, Ext wd W → W.cell? ⟨w.heap.size, 0 + 7, none⟩ = some (.int .i64 (s.bound : Int)) := fun W e => (bd.keep e (by simp)).cell rfl
  refine D_R rfl rfl (fun W hW => AK rfl Z3) (D_R rfl rfl (fun W hW => AF rfl Z3) (D_R rfl rfl (fun W hW => AB rfl Z3) (D_R rfl rfl (fun W hW => AG rfl (fb W hW) Z3) (D_geqT rfl rfl rfl rfl (by omega) (D_R rfl rfl (fun W hW => AD rfl Z3) (D_R rfl rfl (fun W hW => AE rfl (AK rfl Z3)) (D_R rfl rfl (fun W hW => AE rfl (AF rfl Z3)) (D_R rfl rfl (fun W hW => AE rfl (AB rfl Z3)) (D_R rfl rfl (fun W hW => AE rfl (AG rfl (fb W hW) Z3)) (D_R rfl rfl (fun W hW => AE rfl (AB rfl Z3)) (D_R rfl rfl (fun W hW => AE rfl (AG rfl (g6 W hW) Z3)) (D_leqF rfl rfl rfl rfl (by omega) (D_R rfl rfl (fun W hW => AN rfl (AD rfl Z3)) ?_)))))))))))))
  refine D_E rfl ?_
  refine Aa (B4 wd false) rfl ?_ ?_
  ·rintro v w2 ⟨_, hb, _⟩; cases hb
  rintro ch w2 ⟨rfl, hb, rfl⟩
  repeat refine nx rfl ?_
  exact AY ⟨rfl, k1.trans kd, by simp [nodeC, q4]⟩
 refine B5 (.read 0 (.read 1 (.read 2 (.read 3 (.read 4 (.read 5 (.read 6 (.read 7 (.read 8 (.read 9 (.read 10 (.read 11 (.read 12 (.read 13 (.alt 14 .done .stop))))))))))))))) BC (by kernel_rfl) (by repeat (first | exact BZ | refine BJ ?_)) (fun wd kd ed => ⟨Ext wd, ?_, ?_⟩)
 ·exact Ext.refl _
 have bd := b1.keep kd (by simp)
 have fa : ∀ W, Ext wd W → W.cell? ⟨b, o + 4, none⟩ = some (.slice a f.args.length c) := fun W e => ((k1.trans kd).trans e).cell (hcl 4 _ rfl) (by simp)
 have fb : ∀ W, Ext wd W → W.cell? ⟨b, o + 2, none⟩ = some (.int .i64 f.val) := fun W e => ((k1.trans kd).trans e).cell (hcl 2 _ rfl) (by simp)
 have fc : ∀ W, Ext wd W → W.cell? ⟨b, o + 3, none⟩ = some (.int .i64 f.bound) := fun W e => ((k1.trans kd).trans e).cell (hcl 3 _ rfl) (by simp)
 have g4 : ∀ W, Ext wd W → W.cell? ⟨w.heap.size, 0 + 4, none⟩ = some (.int .i64 (s.least : Int)) := fun W e => (bd.keep e (by simp)).cell rfl
 have g5 : ∀ W, Ext wd W → W.cell? ⟨w.heap.size, 0 + 5, none⟩ = some (.int .i64 (s.most : Int)) := fun W e => (bd.keep e (by simp)).cell rfl
 have g6 : ∀ W, Ext wd W → W.cell? ⟨w.heap.size, 0 + 6, none⟩ = some (.int .i64 (s.val : Int)) := fun W e => (bd.keep e (by simp)).cell rfl
 have g7 : ∀ W, Ext wd W → W.cell? ⟨w.heap.size, 0 + 7, none⟩ = some (.int .i64 (s.bound : Int)) := fun W e => (bd.keep e (by simp)).cell rfl
 refine D_R rfl rfl (fun W hW => AK rfl Z3) (D_R rfl rfl (fun W hW => AF rfl Z3) (D_R rfl rfl (fun W hW => AB rfl Z3) (D_R rfl rfl (fun W hW => AG rfl (fb W hW) Z3) (D_geqT rfl rfl rfl rfl (by omega) (D_R rfl rfl (fun W hW => AD rfl Z3) (D_R rfl rfl (fun W hW => AE rfl (AK rfl Z3)) (D_R rfl rfl (fun W hW => AE rfl (AF rfl Z3)) (D_R rfl rfl (fun W hW => AE rfl (AB rfl Z3)) (D_R rfl rfl (fun W hW => AE rfl (AG rfl (fb W hW) Z3)) (D_R rfl rfl (fun W hW => AE rfl (AB rfl Z3)) (D_R rfl rfl (fun W hW => AE rfl (AG rfl (g6 W hW) Z3)) (D_leqT rfl rfl rfl rfl (by omega) (D_R rfl rfl (fun W hW => AN rfl (AD rfl Z3)) ?_)))))))))))))
 refine D_E rfl ?_
 refine Aa (B4 wd true) rfl ?_ ?_
 rotate_left
 ·rintro ch w2 ⟨_, hb, _⟩; cases hb
 rintro v w2 ⟨rfl, hb, rfl⟩
 refine AJ ⟨Ext w2, fun _ e => e, Ext.refl _, ?_⟩
 refine Ax ?_
 repeat refine nx rfl ?_
 replace k1 := k1.trans kd
 clear fa fb fc g4 g5 g6 g7 kd ed b1
 have b1 := bd
 clear bd
 by_cases q5 : 0 ≤ f.bound
 case neg =>
  refine B5 (.read 0 (.read 1 (.read 2 (.read 3 (.read 4 (.read 5 (.read 6 (.read 7 (.read 8 (.read 9 (.read 10 (.read 11 (.read 12 (.read 13 (.alt 14 .done .stop))))))))))))))) BC (by kernel_rfl) (by repeat (first | exact BZ | refine BJ ?_)) (fun wd kd ed => ⟨Ext wd, ?_, ?_⟩)
  ·exact Ext.refl _
  have bd := b1.keep kd (by simp)
  have fa : ∀ W, Ext wd W → W.cell? ⟨b, o + 4, none⟩ = some (.slice a f.args.length c) := fun W e => ((k1.trans kd).trans e).cell (hcl 4 _ rfl) (by simp)
  have fb : ∀ W, Ext wd W → W.cell? ⟨b, o + 2, none⟩ = some (.int .i64 f.val) := fun W e => ((k1.trans kd).trans e).cell (hcl 2 _ rfl) (by simp)
  have fc : ∀ W, Ext wd W → W.cell? ⟨b, o + 3, none⟩ = some (.int .i64 f.bound) := fun W e => ((k1.trans kd).trans e).cell (hcl 3 _ rfl) (by simp)
  have g4 : ∀ W, Ext wd W → W.cell? ⟨w.heap.size, 0 + 4, none⟩ = some (.int .i64 (s.least : Int)) := fun W e => (bd.keep e (by simp)).cell rfl
  have g5 : ∀ W, Ext wd W → W.cell? ⟨w.heap.size, 0 + 5, none⟩ = some (.int .i64 (s.most : Int)) := fun W e => (bd.keep e (by simp)).cell rfl
  have g6 : ∀ W, Ext wd W → W.cell? ⟨w.heap.size, 0 + 6, none⟩ = some (.int .i64 (s.val : Int)) := fun W e => (bd.keep e (by simp)).cell rfl
  have g7 : ∀ W, Ext wd W → W.cell? ⟨w.heap.size, 0 + 7, none⟩ = some (.int .i64 (s.bound : Int)) := fun W e => (bd.keep e (by simp)).cell rfl
  refine D_R rfl rfl (fun W hW => AK rfl Z3) (D_R rfl rfl (fun W hW => AF rfl Z3) (D_R rfl rfl (fun W hW => AB rfl Z3) (D_R rfl rfl (fun W hW => AG rfl (fc W hW) Z3) (D_geqF rfl rfl rfl rfl (by omega) (D_R rfl rfl (fun W hW => AD rfl Z3) (Ad rfl rfl rfl rfl (Ad rfl rfl rfl rfl (Ad rfl rfl rfl rfl (Ad rfl rfl rfl rfl (Ad rfl rfl rfl rfl (Ad rfl rfl rfl rfl (Ad rfl rfl rfl rfl (D_R rfl rfl (fun W hW => AS rfl (AD rfl Z3)) ?_)))))))))))))
  refine D_E rfl ?_
  refine Aa (B4 wd false) rfl ?_ ?_
  ·rintro v w2 ⟨_, hb, _⟩; cases hb
  rintro ch w2 ⟨rfl, hb, rfl⟩
  repeat refine nx rfl ?_
  exact AY ⟨rfl, k1.trans kd, by simp [nodeC, q5]⟩
 by_cases q6 : f.bound ≤ (s.bound : Int)
 case neg =>
  refine B5 (.read 0 (.read 1 (.read 2 (.read 3 (.read 4 (.read 5 (.read 6 (.read 7 (.read 8 (.read 9 (.read 10 (.read 11 (.read 12 (.read 13 (.alt 14 .done .stop))))))))))))))) BC (by kernel_rfl) (by repeat (first | exact BZ | refine BJ ?_)) (fun wd kd ed => ⟨Ext wd, ?_, ?_⟩)
  ·exact Ext.refl _
  have bd := b1.keep kd (by simp)
  have fa : ∀ W, Ext wd W → W.cell? ⟨b, o + 4, none⟩ = some (.slice a f.args.length c) := fun W e => ((k1.trans kd).trans e).cell (hcl 4 _ rfl) (by simp)
  have fb : ∀ W, Ext wd W → W.cell? ⟨b, o + 2, none⟩ = some (.int .i64 f.val) := fun W e => ((k1.trans kd).trans e).cell (hcl 2 _ rfl) (by simp)
  have fc : ∀ W, Ext wd W → W.cell? ⟨b, o + 3, none⟩ = some (.int .i64 f.bound) := fun W e => ((k1.trans kd).trans e).cell (hcl 3 _ rfl) (by simp)
  have g4 : ∀ W, Ext wd W → W.cell? ⟨w.heap.size, 0 + 4, none⟩ = some (.int .i64 (s.least : Int)) := fun W e => (bd.keep e (by simp)).cell rfl
  have g5 : ∀ W, Ext wd W → W.cell? ⟨w.heap.size, 0 + 5, none⟩ = some (.int .i64 (s.most : Int)) := fun W e => (bd.keep e (by simp)).cell rfl
  have g6 : ∀ W, Ext wd W → W.cell? ⟨w.heap.size, 0 + 6, none⟩ = some (.int .i64 (s.val : Int)) := fun W e => (bd.keep e (by simp)).cell rfl
  have g7 : ∀ W, Ext wd W → W.cell? ⟨w.heap.size, 0 + 7, none⟩ = some (.int .i64 (s.bound : Int)) := fun W e => (bd.keep e (by simp)).cell rfl
  refine D_R rfl rfl (fun W hW => AK rfl Z3) (D_R rfl rfl (fun W hW => AF rfl Z3) (D_R rfl rfl (fun W hW => AB rfl Z3) (D_R rfl rfl (fun W hW => AG rfl (fc W hW) Z3) (D_geqT rfl rfl rfl rfl (by omega) (D_R rfl rfl (fun W hW => AD rfl Z3) (D_R rfl rfl (fun W hW => AE rfl (AK rfl Z3)) (D_R rfl rfl (fun W hW => AE rfl (AF rfl Z3)) (D_R rfl rfl (fun W hW => AE rfl (AB rfl Z3)) (D_R rfl rfl (fun W hW => AE rfl (AG rfl (fc W hW) Z3)) (D_R rfl rfl (fun W hW => AE rfl (AB rfl Z3)) (D_R rfl rfl (fun W hW => AE rfl (AG rfl (g7 W hW) Z3)) (D_leqF rfl rfl rfl rfl (by omega) (D_R rfl rfl (fun W hW => AN rfl (AD rfl Z3)) ?_)))))))))))))
  refine D_E rfl ?_
  refine Aa (B4 wd false) rfl ?_ ?_
  ·rintro v w2 ⟨_, hb, _⟩; cases hb
  rintro ch w2 ⟨rfl, hb, rfl⟩
  repeat refine nx rfl ?_
  exact AY ⟨rfl, k1.trans kd, by simp [nodeC, q6]⟩
 refine B5 (.read 0 (.read 1 (.read 2 (.read 3 (.read 4 (.read 5 (.read 6 (.read 7 (.read 8 (.read 9 (.read 10 (.read 11 (.read 12 (.read 13 (.alt 14 .done .stop))))))))))))))) BC (by kernel_rfl) (by repeat (first | exact BZ | refine BJ ?_)) (fun wd kd ed => ⟨Ext wd, ?_, ?_⟩)
 ·exact Ext.refl _
 have bd := b1.keep kd (by simp)
 have fa : ∀ W, Ext wd W → W.cell? ⟨b, o + 4, none⟩ = some (.slice a f.args.length c) := fun W e => ((k1.trans kd).trans e).cell (hcl 4 _ rfl) (by simp)
 have fb : ∀ W, Ext wd W → W.cell? ⟨b, o + 2, none⟩ = some (.int .i64 f.val) := fun W e => ((k1.trans kd).trans e).cell (hcl 2 _ rfl) (by simp)
 have fc : ∀ W, Ext wd W → W.cell? ⟨b, o + 3, none⟩ = some (.int .i64 f.bound) := fun W e => ((k1.trans kd).trans e).cell (hcl 3 _ rfl) (by simp)
 have g4 : ∀ W, Ext wd W → W.cell? ⟨w.heap.size, 0 + 4, none⟩ = some (.int .i64 (s.least : Int)) := fun W e => (bd.keep e (by simp)).cell rfl
 have g5 : ∀ W, Ext wd W → W.cell? ⟨w.heap.size, 0 + 5, none⟩ = some (.int .i64 (s.most : Int)) := fun W e => (bd.keep e (by simp)).cell rfl
 have g6 : ∀ W, Ext wd W → W.cell? ⟨w.heap.size, 0 + 6, none⟩ = some (.int .i64 (s.val : Int)) := fun W e => (bd.keep e (by simp)).cell rfl
 have g7 : ∀ W, Ext wd W → W.cell? ⟨w.heap.size, 0 + 7, none⟩ = some (.int .i64 (s.bound : Int)) := fun W e => (bd.keep e (by simp)).cell rfl
 refine D_R rfl rfl (fun W hW => AK rfl Z3) (D_R rfl rfl (fun W hW => AF rfl Z3) (D_R rfl rfl (fun W hW => AB rfl Z3) (D_R rfl rfl (fun W hW => AG rfl (fc W hW) Z3) (D_geqT rfl rfl rfl rfl (by omega) (D_R rfl rfl (fun W hW => AD rfl Z3) (D_R rfl rfl (fun W hW => AE rfl (AK rfl Z3)) (D_R rfl rfl (fun W hW => AE rfl (AF rfl Z3)) (D_R rfl rfl (fun W hW => AE rfl (AB rfl Z3)) (D_R rfl rfl (fun W hW => AE rfl (AG rfl (fc W hW) Z3)) (D_R rfl rfl (fun W hW => AE rfl (AB rfl Z3)) (D_R rfl rfl (fun W hW => AE rfl (AG rfl (g7 W hW) Z3)) (D_leqT rfl rfl rfl rfl (by omega) (D_R rfl rfl (fun W hW => AN rfl (AD rfl Z3)) ?_)))))))))))))
 refine D_E rfl ?_
 refine Aa (B4 wd true) rfl ?_ ?_
 rotate_left
 ·rintro ch w2 ⟨_, hb, _⟩; cases hb
 rintro v w2 ⟨rfl, hb, rfl⟩
 refine AJ ⟨Ext w2, fun _ e => e, Ext.refl _, ?_⟩
 refine Ax ?_
 repeat refine nx rfl ?_
 replace k1 := k1.trans kd
 clear fa fb fc g4 g5 g6 g7 kd ed b1
 have b1 := bd
 clear bd
 have fo := k1.cell (hcl 0 _ rfl) (by simp)
 have fn := k1.cell (hcl 1 _ rfl) (by simp)
 by_cases q7 : f.op = 3
 ·(refine AA (AK rfl (AF rfl (AB rfl (AG rfl (by assumption) ?_)))) <;> refine BQ rfl rfl (by omega) (AD rfl (AM rfl (AM rfl (AM rfl (AM rfl (AM rfl (AN rfl (AD rfl ?_)))))))))
  refine Aa (B4 _ true) rfl ?_ ?_
  rotate_left
  ·rintro ch w2 ⟨_, hb, _⟩; cases hb
  rintro v w2 ⟨rfl, hb, rfl⟩
  repeat refine nx rfl ?_
  exact Az rfl ⟨rfl, k1, by simp [nodeC, q1, q2, q3, q4, q5, q6, q7]⟩
 by_cases q8 : f.name = []
 ·(refine AA (AK rfl (AF rfl (AB rfl (AG rfl (by assumption) ?_)))) <;> refine BA rfl rfl (by omega) (AD rfl (AE rfl (AK rfl (AE rfl (AF rfl (AE rfl (AB rfl (AE rfl (AG rfl (by assumption) ?_))))))))) <;> (refine AE rfl ?_; refine CT rfl rfl (fun hc => ?_) (fun hc => ?_)) <;> refine AS rfl (AD rfl ?_))
  case refine_2 => exact absurd q8 (by assumption)
  refine Aa (B4 _ true) rfl ?_ ?_
  rotate_left
  ·rintro ch w2 ⟨_, hb, _⟩; cases hb
  rintro v w2 ⟨rfl, hb, rfl⟩
  repeat refine nx rfl ?_
  exact Az rfl ⟨rfl, k1, by simp [nodeC, q1, q2, q3, q4, q5, q6, q8]⟩
 ·(refine AA (AK rfl (AF rfl (AB rfl (AG rfl (by assumption) ?_)))) <;> refine BA rfl rfl (by omega) (AD rfl (AE rfl (AK rfl (AE rfl (AF rfl (AE rfl (AB rfl (AE rfl (AG rfl (by assumption) ?_))))))))) <;> (refine AE rfl ?_; refine CT rfl rfl (fun hc => ?_) (fun hc => ?_)) <;> refine AS rfl (AD rfl ?_))
  case refine_1 => exact absurd (by assumption) q8
  refine Aa (B4 _ false) rfl ?_ ?_
  ·rintro v w2 ⟨_, hb, _⟩; cases hb
  rintro ch w2 ⟨rfl, hb, rfl⟩
  repeat refine nx rfl ?_
  exact AY ⟨rfl, k1, by simp [nodeC, q7, q8]⟩
end Go.Proofs.YtfcgdbmoncnibaaGreatDoor
namespace Go.Proofs.YtfcgdbmoncnibaaGreatDoor
open Go.RowKit
set_option linter.unusedVariables false
theorem numT_len {n : Int} (h : n ≤ 9999) : (CN n).length ≤ 4 := digs_len (by omega)
theorem numB_of {n : Int} (h0 : 0 ≤ n) (h1 : n ≤ 9999) : numB n = true := by simp [numB, h0, h1]
theorem signOf_ok (w : World) (s : Sty) (b o : Nat) (f : Fml) (av : Value) (hcl : Cells w b o (fcC f av)) (hs : Bn f.op = some s) (hok : nodeC s f = true) (hG : GP w) :
  FnP Tryz.prog 124 [Br s, .pointer (some ⟨b, o, none⟩)] w (fun v w' => v = AI (sgT f.op f.name f.val f.bound) ∧ Ext w w' ∧ (f.op = 3 → Bh f.name = true)) (fun ch w' => ch = unp ∧ Ext w w' ∧ f.op = 3 ∧ Bh f.name = false) := by
 have hsg : s.sign.length ≤ 5 := by
  rcases op_cases hs with h | h | h | h | h | h | h | h | h | h | h | h | h | h | h | h | h | h | h <;> rw [h] at hs <;> simp [Bn, styL, List.lookup] at hs <;> subst hs <;> decide
 have esd : BR f.op = s := by unfold BR; rw [hs]; rfl
 simp only [nodeC, Bool.and_eq_true, decide_eq_true_eq] at hok
 obtain ⟨⟨⟨_, h1, h2⟩, h3, h4⟩, _⟩ := hok
 refine Ao Tryz.func124 rfl Tryz.ntmps124 (Nat.le_of_ble_eq_true rfl) (by kernel_rfl) ?_
 repeat refine nx rfl ?_
 (refine AA ?_; refine B9 (L := CR s) rfl (fun w1 n1 => ?_))
 have b1 := n1.blk
 have k1 := n1.keep
 have fo := k1.cell (hcl 0 _ rfl) (by simp)
 refine AC (AX rfl ?_)
 repeat refine nx rfl ?_
 (refine AA (AK rfl (AF rfl (AB rfl (AG rfl (by assumption) ?_)))))
 repeat refine nx rfl ?_
 by_cases o3 : f.op = 3
 ·have hs3 := hs
  rw [o3] at hs3
  simp [Bn, styL, List.lookup] at hs3
  have hu : s.usual = 1 := by rw [← hs3]
  have hv : s.val = 9999 := by rw [← hs3]
  have hg : s.sign = [61] := by rw [← hs3]
  refine AA (BQ rfl rfl (by omega) (AC (AD rfl ?_)))
  repeat refine nx rfl ?_
  by_cases hv1 : f.val = 1
  ·refine B5 (.read 0 (.read 1 (.read 2 (.read 3 (.read 4 (.read 5 (.read 6 .done))))))) BC (by kernel_rfl) (by repeat (first | exact BZ | refine BJ ?_ | refine B3 ?_)) (fun wd kd ed => ⟨Ext wd, ?_, ?_⟩)
   ·exact Ext.refl _
   have bd := b1.keep kd (by simp)
   have fn : ∀ W, Ext wd W → W.cell? ⟨b, o + 1, none⟩ = some (AI f.name) := fun W e => ((k1.trans kd).trans e).cell (hcl 1 _ rfl) (by simp)
   have fv : ∀ W, Ext wd W → W.cell? ⟨b, o + 2, none⟩ = some (.int .i64 f.val) := fun W e => ((k1.trans kd).trans e).cell (hcl 2 _ rfl) (by simp)
   have fb : ∀ W, Ext wd W → W.cell? ⟨b, o + 3, none⟩ = some (.int .i64 f.bound) := fun W e => ((k1.trans kd).trans e).cell (hcl 3 _ rfl) (by simp)
   have g0 : ∀ W, Ext wd W → W.cell? ⟨w.heap.size, 0 + 0, none⟩ = some (AI s.sign) := fun W e => (bd.keep e (by simp)).cell rfl
   have g8 : ∀ W, Ext wd W → W.cell? ⟨w.heap.size, 0 + 8, none⟩ = some (.int .i64 (s.usual : Int)) := fun W e => (bd.keep e (by simp)).cell rfl
   refine D_R rfl rfl (fun W hW => AK rfl Z3) (D_R rfl rfl (fun W hW => AF rfl Z3) (D_R rfl rfl (fun W hW => AB rfl Z3) (D_R rfl rfl (fun W hW => AG rfl (fv W hW) Z3) (D_R rfl rfl (fun W hW => AB rfl Z3) (D_R rfl rfl (fun W hW => AG rfl (g8 W hW) Z3) (D_eqlT rfl rfl rfl rfl (by omega) (Ax ?_)))))))
   repeat refine nx rfl ?_
   have fn1 := fn _ (Ext.refl _)
   refine AA (AK rfl (AF rfl (AB rfl (AG rfl (by assumption) ?_))))
   refine Aa (wname_ok _ f.name (hG.gk.ext (k1.trans kd))) rfl ?_ ?_
   rotate_left
   ·rintro ch w2 ⟨rfl, hb, rfl⟩
    repeat refine nx rfl ?_
    exact AY ⟨rfl, k1.trans kd, o3, hb⟩
   rintro v w2 ⟨rfl, hb, rfl⟩
   refine AC (AX rfl ?_)
   repeat refine nx rfl ?_
   have e : sgT f.op f.name f.val f.bound = f.name := by simp [sgT, o3, hv1]
   exact AQ rfl ⟨by rw [e]; rfl, k1.trans kd, fun _ => hb⟩
  ·refine B5 (.read 0 (.read 1 (.read 2 (.read 3 (.read 4 (.read 5 (.read 6 .done))))))) BC (by kernel_rfl) (by repeat (first | exact BZ | refine BJ ?_ | refine B3 ?_)) (fun wd kd ed => ⟨Ext wd, ?_, ?_⟩)
   ·exact Ext.refl _
   have bd := b1.keep kd (by simp)
   have fn : ∀ W, Ext wd W → W.cell? ⟨b, o + 1, none⟩ = some (AI f.name) := fun W e => ((k1.trans kd).trans e).cell (hcl 1 _ rfl) (by simp)
   have fv : ∀ W, Ext wd W → W.cell? ⟨b, o + 2, none⟩ = some (.int .i64 f.val) := fun W e => ((k1.trans kd).trans e).cell (hcl 2 _ rfl) (by simp)
   have fb : ∀ W, Ext wd W → W.cell? ⟨b, o + 3, none⟩ = some (.int .i64 f.bound) := fun W e => ((k1.trans kd).trans e).cell (hcl 3 _ rfl) (by simp)
   have g0 : ∀ W, Ext wd W → W.cell? ⟨w.heap.size, 0 + 0, none⟩ = some (AI s.sign) := fun W e => (bd.keep e (by simp)).cell rfl
   have g8 : ∀ W, Ext wd W → W.cell? ⟨w.heap.size, 0 + 8, none⟩ = some (.int .i64 (s.usual : Int)) := fun W e => (bd.keep e (by simp)).cell rfl
   refine D_R rfl rfl (fun W hW => AK rfl Z3) (D_R rfl rfl (fun W hW => AF rfl Z3) (D_R rfl rfl (fun W hW => AB rfl Z3) (D_R rfl rfl (fun W hW => AG rfl (fv W hW) Z3) (D_R rfl rfl (fun W hW => AB rfl Z3) (D_R rfl rfl (fun W hW => AG rfl (g8 W hW) Z3) (D_eqlF rfl rfl rfl rfl (by omega) (Ax ?_)))))))
   repeat first | refine nx rfl ?_ | refine nf rfl ?_
   replace k1 := k1.trans kd
   replace b1 := bd
   clear fn fv fb g0 g8 bd kd ed
   refine B5 (.read 0 (.read 1 (.read 2 (.read 3 (.read 5 (.read 6 (.read 8 (.read 9 (.read 10 (.read 11 (.alt 4 (.read 7 (.alt 12 (.read 13 (.read 14 .done)) .stop)) .stop))))))))))) BC (by kernel_rfl) (by repeat (first | exact BZ | refine BJ ?_ | refine B3 ?_)) (fun wd kd ed => ⟨Ext wd, ?_, ?_⟩)
   ·exact Ext.refl _
   have bd := b1.keep kd (by simp)
   have fn : ∀ W, Ext wd W → W.cell? ⟨b, o + 1, none⟩ = some (AI f.name) := fun W e => ((k1.trans kd).trans e).cell (hcl 1 _ rfl) (by simp)
   have fv : ∀ W, Ext wd W → W.cell? ⟨b, o + 2, none⟩ = some (.int .i64 f.val) := fun W e => ((k1.trans kd).trans e).cell (hcl 2 _ rfl) (by simp)
   have fb : ∀ W, Ext wd W → W.cell? ⟨b, o + 3, none⟩ = some (.int .i64 f.bound) := fun W e => ((k1.trans kd).trans e).cell (hcl 3 _ rfl) (by simp)
   have g0 : ∀ W, Ext wd W → W.cell? ⟨w.heap.size, 0 + 0, none⟩ = some (AI s.sign) := fun W e => (bd.keep e (by simp)).cell rfl
   have g8 : ∀ W, Ext wd W → W.cell? ⟨w.heap.size, 0 + 8, none⟩ = some (.int .i64 (s.usual : Int)) := fun W e => (bd.keep e (by simp)).cell rfl
   refine D_R rfl rfl (fun W hW => AK rfl Z3) (D_R rfl rfl (fun W hW => AF rfl Z3) (D_R rfl rfl (fun W hW => AB rfl Z3) (D_R rfl rfl (fun W hW => AG rfl (fn W hW) Z3) (D_R rfl rfl (fun W hW => AB rfl Z3) (D_R rfl rfl (fun W hW => AG rfl (g0 W hW) Z3) (D_R rfl rfl (fun W hW => AK rfl Z3) (D_R rfl rfl (fun W hW => AF rfl Z3) (D_R rfl rfl (fun W hW => AB rfl Z3) (D_R rfl rfl (fun W hW => AG rfl (fv W hW) Z3) ?_)))))))))
   refine D_E rfl ?_
   refine Aa (wname_ok wd f.name (hG.gk.ext (k1.trans kd))) rfl ?_ ?_
   rotate_left
   ·rintro ch w2 ⟨rfl, hb, rfl⟩
    repeat refine nx rfl ?_
    exact AY ⟨rfl, k1.trans kd, o3, hb⟩
   rintro v w2 ⟨rfl, hb, rfl⟩
   have hnl := (Bf hb).2.1
   refine AJ ⟨Ext w2, fun _ e => e, Ext.refl _, ?_⟩
   (apply D_R rfl rfl; (intro W hW; (refine W_sadd rfl rfl (by (try simp); omega) ?_); exact AJ ⟨rfl, rfl, rfl⟩))
   refine D_E rfl ?_
   refine Aa (wnumber_ok w2 f.val (hG.ext (k1.trans kd))) rfl ?_ ?_
   rotate_left
   ·rintro ch w3 ⟨rfl, hb2, rfl⟩
    rw [numB_of h1 (by omega)] at hb2; cases hb2
   rintro v w3 ⟨rfl, _, k3⟩
   have hnn := numT_len (n := f.val) (by omega)
   refine AJ ⟨Ext w3, fun _ e => k3.trans e, Ext.refl _, ?_⟩
   (apply D_R rfl rfl; (intro W hW; (refine W_sadd rfl rfl (by (try simp); omega) ?_); exact AJ ⟨rfl, rfl, rfl⟩))
   refine D_R rfl rfl (fun W hW => AC (AX rfl Z3)) (Ax ?_)
   repeat refine nx rfl ?_
   have e : sgT f.op f.name f.val f.bound = f.name ++ s.sign ++ CN f.val := by simp [sgT, o3, hv1, hg]
   exact AQ rfl ⟨by rw [e]; rfl, (k1.trans kd).trans k3, fun _ => hb⟩
 by_cases o13 : f.op = 13 ∨ f.op = 14
 ·have hbd : s.bound = 9999 := by
   rcases o13 with h | h <;> rw [h] at hs <;> simp [Bn, styL, List.lookup] at hs <;> rw [← hs]
  have fin8 : sgT f.op f.name f.val f.bound = s.sign ++ CN f.bound ++ [93, 32] := by simp [sgT, o3, o13, esd]
  refine AA (BA rfl rfl (by omega) (AC (AD rfl ?_)))
  repeat first | refine nx rfl ?_ | refine nf rfl ?_
  rcases o13 with h13 | h14
  ·refine AA (BQ rfl rfl (by omega) (AC (AD rfl ?_)))
   repeat refine nx rfl ?_
   refine B5 (.read 0 (.read 1 (.read 2 (.read 3 (.read 4 (.read 5 (.alt 6 (.read 7 (.read 8 (.read 9 .done))) .stop))))))) BC (by kernel_rfl) (by repeat (first | exact BZ | refine BJ ?_ | refine B3 ?_)) (fun wd kd ed => ⟨Ext wd, ?_, ?_⟩)
   ·exact Ext.refl _
   have bd := b1.keep kd (by simp)
   have fn : ∀ W, Ext wd W → W.cell? ⟨b, o + 1, none⟩ = some (AI f.name) := fun W e => ((k1.trans kd).trans e).cell (hcl 1 _ rfl) (by simp)
   have fv : ∀ W, Ext wd W → W.cell? ⟨b, o + 2, none⟩ = some (.int .i64 f.val) := fun W e => ((k1.trans kd).trans e).cell (hcl 2 _ rfl) (by simp)
   have fb : ∀ W, Ext wd W → W.cell? ⟨b, o + 3, none⟩ = some (.int .i64 f.bound) := fun W e => ((k1.trans kd).trans e).cell (hcl 3 _ rfl) (by simp)
   have g0 : ∀ W, Ext wd W → W.cell? ⟨w.heap.size, 0 + 0, none⟩ = some (AI s.sign) := fun W e => (bd.keep e (by simp)).cell rfl
   have g8 : ∀ W, Ext wd W → W.cell? ⟨w.heap.size, 0 + 8, none⟩ = some (.int .i64 (s.usual : Int)) := fun W e => (bd.keep e (by simp)).cell rfl
   refine D_R rfl rfl (fun W hW => AB rfl Z3) (D_R rfl rfl (fun W hW => AG rfl (g0 W hW) Z3) (D_R rfl rfl (fun W hW => AK rfl Z3) (D_R rfl rfl (fun W hW => AF rfl Z3) (D_R rfl rfl (fun W hW => AB rfl Z3) (D_R rfl rfl (fun W hW => AG rfl (fb W hW) Z3) ?_)))))
   refine D_E rfl ?_
   refine Aa (wnumber_ok wd f.bound (hG.ext (k1.trans kd))) rfl ?_ ?_
   rotate_left
   ·rintro ch w3 ⟨rfl, hb2, rfl⟩
    rw [numB_of h3 (by omega)] at hb2; cases hb2
   rintro v w3 ⟨rfl, _, k3⟩
   have hnn := numT_len (n := f.bound) (by omega)
   refine AJ ⟨Ext w3, fun _ e => k3.trans e, Ext.refl _, ?_⟩
   (apply D_R rfl rfl; (intro W hW; (refine W_sadd rfl rfl (by (try simp); omega) ?_); exact AJ ⟨rfl, rfl, rfl⟩))
   (apply D_R rfl rfl; (intro W hW; (refine W_sadd rfl rfl (by (try simp); omega) ?_); exact AJ ⟨rfl, rfl, rfl⟩))
   refine D_R rfl rfl (fun W hW => AC (AX rfl Z3)) (Ax ?_)
   repeat refine nx rfl ?_
   exact AQ rfl ⟨by rw [fin8]; rfl, (k1.trans kd).trans k3, fun h => absurd h o3⟩
  ·refine AA (BA rfl rfl (by omega) (AC (AD rfl ?_)))
   repeat first | refine nx rfl ?_ | refine nf rfl ?_
   refine AA (BQ rfl rfl (by omega) (AC (AD rfl ?_)))
   repeat refine nx rfl ?_
   refine B5 (.read 0 (.read 1 (.read 2 (.read 3 (.read 4 (.read 5 (.alt 6 (.read 7 (.read 8 (.read 9 .done))) .stop))))))) BC (by kernel_rfl) (by repeat (first | exact BZ | refine BJ ?_ | refine B3 ?_)) (fun wd kd ed => ⟨Ext wd, ?_, ?_⟩)
   ·exact Ext.refl _
   have bd := b1.keep kd (by simp)
   have fn : ∀ W, Ext wd W → W.cell? ⟨b, o + 1, none⟩ = some (AI f.name) := fun W e => ((k1.trans kd).trans e).cell (hcl 1 _ rfl) (by simp)
   have fv : ∀ W, Ext wd W → W.cell? ⟨b, o + 2, none⟩ = some (.int .i64 f.val) := fun W e => ((k1.trans kd).trans e).cell (hcl 2 _ rfl) (by simp)
   have fb : ∀ W, Ext wd W → W.cell? ⟨b, o + 3, none⟩ = some (.int .i64 f.bound) := fun W e => ((k1.trans kd).trans e).cell (hcl 3 _ rfl) (by simp)
   have g0 : ∀ W, Ext wd W → W.cell? ⟨w.heap.size, 0 + 0, none⟩ = some (AI s.sign) := fun W e => (bd.keep e (by simp)).cell rfl
   have g8 : ∀ W, Ext wd W → W.cell? ⟨w.heap.size, 0 + 8, none⟩ = some (.int .i64 (s.usual : Int)) := fun W e => (bd.keep e (by simp)).cell rfl
   refine D_R rfl rfl (fun W hW => AB rfl Z3) (D_R rfl rfl (fun W hW => AG rfl (g0 W hW) Z3) (D_R rfl rfl (fun W hW => AK rfl Z3) (D_R rfl rfl (fun W hW => AF rfl Z3) (D_R rfl rfl (fun W hW => AB rfl Z3) (D_R rfl rfl (fun W hW => AG rfl (fb W hW) Z3) ?_)))))
   refine D_E rfl ?_
   refine Aa (wnumber_ok wd f.bound (hG.ext (k1.trans kd))) rfl ?_ ?_
   rotate_left
   ·rintro ch w3 ⟨rfl, hb2, rfl⟩
    rw [numB_of h3 (by omega)] at hb2; cases hb2
   rintro v w3 ⟨rfl, _, k3⟩
   have hnn := numT_len (n := f.bound) (by omega)
   refine AJ ⟨Ext w3, fun _ e => k3.trans e, Ext.refl _, ?_⟩
   (apply D_R rfl rfl; (intro W hW; (refine W_sadd rfl rfl (by (try simp); omega) ?_); exact AJ ⟨rfl, rfl, rfl⟩))
   (apply D_R rfl rfl; (intro W hW; (refine W_sadd rfl rfl (by (try simp); omega) ?_); exact AJ ⟨rfl, rfl, rfl⟩))
   refine D_R rfl rfl (fun W hW => AC (AX rfl Z3)) (Ax ?_)
   repeat refine nx rfl ?_
   exact AQ rfl ⟨by rw [fin8]; rfl, (k1.trans kd).trans k3, fun h => absurd h o3⟩
 by_cases o15 : f.op = 15
 ·have hs15 := hs
  rw [o15] at hs15
  simp [Bn, styL, List.lookup] at hs15
  have hu : s.usual = 0 := by rw [← hs15]
  have hg : s.sign = [89, 32] := by rw [← hs15]
  refine AA (BA rfl rfl (by omega) (AC (AD rfl ?_)))
  repeat first | refine nx rfl ?_ | refine nf rfl ?_
  refine AA (BA rfl rfl (by omega) (AC (AD rfl ?_)))
  repeat first | refine nx rfl ?_ | refine nf rfl ?_
  refine AA (BA rfl rfl (by omega) (AC (AD rfl ?_)))
  repeat first | refine nx rfl ?_ | refine nf rfl ?_
  refine AA (BQ rfl rfl (by omega) (AC (AD rfl ?_)))
  repeat refine nx rfl ?_
  by_cases hv0 : f.val = 0
  ·refine B5 (.read 0 (.read 1 (.read 2 (.read 3 (.read 4 (.read 5 (.read 6 .done))))))) BC (by kernel_rfl) (by repeat (first | exact BZ | refine BJ ?_ | refine B3 ?_)) (fun wd kd ed => ⟨Ext wd, ?_, ?_⟩)
   ·exact Ext.refl _
   have bd := b1.keep kd (by simp)
   have fn : ∀ W, Ext wd W → W.cell? ⟨b, o + 1, none⟩ = some (AI f.name) := fun W e => ((k1.trans kd).trans e).cell (hcl 1 _ rfl) (by simp)
   have fv : ∀ W, Ext wd W → W.cell? ⟨b, o + 2, none⟩ = some (.int .i64 f.val) := fun W e => ((k1.trans kd).trans e).cell (hcl 2 _ rfl) (by simp)
   have fb : ∀ W, Ext wd W → W.cell? ⟨b, o + 3, none⟩ = some (.int .i64 f.bound) := fun W e => ((k1.trans kd).trans e).cell (hcl 3 _ rfl) (by simp)
   have g0 : ∀ W, Ext wd W → W.cell? ⟨w.heap.size, 0 + 0, none⟩ = some (AI s.sign) := fun W e => (bd.keep e (by simp)).cell rfl
   have g8 : ∀ W, Ext wd W → W.cell? ⟨w.heap.size, 0 + 8, none⟩ = some (.int .i64 (s.usual : Int)) := fun W e => (bd.keep e (by simp)).cell rfl
   refine D_R rfl rfl (fun W hW => AK rfl Z3) (D_R rfl rfl (fun W hW => AF rfl Z3) (D_R rfl rfl (fun W hW => AB rfl Z3) (D_R rfl rfl (fun W hW => AG rfl (fv W hW) Z3) (D_R rfl rfl (fun W hW => AB rfl Z3) (D_R rfl rfl (fun W hW => AG rfl (g8 W hW) Z3) (D_neqF rfl rfl rfl rfl (by omega) (Ax ?_)))))))
   repeat first | refine nx rfl ?_ | refine nf rfl ?_
   have g1 := g0 _ (Ext.refl _)
   (refine AA (AB rfl (AG rfl (Blk.cell (by assumption) (by rfl)) ?_)) <;> refine AC (AX rfl ?_))
   repeat refine nx rfl ?_
   have e : sgT f.op f.name f.val f.bound = s.sign := by simp [sgT, o15, hv0, hg]
   exact AQ rfl ⟨by rw [e]; rfl, k1.trans kd, fun h => absurd h o3⟩
  ·refine B5 (.read 0 (.read 1 (.read 2 (.read 3 (.read 4 (.read 5 (.read 6 .done))))))) BC (by kernel_rfl) (by repeat (first | exact BZ | refine BJ ?_ | refine B3 ?_)) (fun wd kd ed => ⟨Ext wd, ?_, ?_⟩)
   ·exact Ext.refl _
   have bd := b1.keep kd (by simp)
   have fn : ∀ W, Ext wd W → W.cell? ⟨b, o + 1, none⟩ = some (AI f.name) := fun W e => ((k1.trans kd).trans e).cell (hcl 1 _ rfl) (by simp)
   have fv : ∀ W, Ext wd W → W.cell? ⟨b, o + 2, none⟩ = some (.int .i64 f.val) := fun W e => ((k1.trans kd).trans e).cell (hcl 2 _ rfl) (by simp)
   have fb : ∀ W, Ext wd W → W.cell? ⟨b, o + 3, none⟩ = some (.int .i64 f.bound) := fun W e => ((k1.trans kd).trans e).cell (hcl 3 _ rfl) (by simp)
   have g0 : ∀ W, Ext wd W → W.cell? ⟨w.heap.size, 0 + 0, none⟩ = some (AI s.sign) := fun W e => (bd.keep e (by simp)).cell rfl
   have g8 : ∀ W, Ext wd W → W.cell? ⟨w.heap.size, 0 + 8, none⟩ = some (.int .i64 (s.usual : Int)) := fun W e => (bd.keep e (by simp)).cell rfl
   refine D_R rfl rfl (fun W hW => AK rfl Z3) (D_R rfl rfl (fun W hW => AF rfl Z3) (D_R rfl rfl (fun W hW => AB rfl Z3) (D_R rfl rfl (fun W hW => AG rfl (fv W hW) Z3) (D_R rfl rfl (fun W hW => AB rfl Z3) (D_R rfl rfl (fun W hW => AG rfl (g8 W hW) Z3) (D_neqT rfl rfl rfl rfl (by omega) (Ax ?_)))))))
   repeat refine nx rfl ?_
   refine AA (AC (AX rfl ?_))
   repeat refine nx rfl ?_
   have e : sgT f.op f.name f.val f.bound = [90, 32] := by simp [sgT, o15, hv0]
   exact AQ rfl ⟨by rw [e]; rfl, k1.trans kd, fun h => absurd h o3⟩
 by_cases o16 : f.op = 16 ∨ f.op = 17
 ·have hvl : s.val = 9999 := by
   rcases o16 with h | h <;> rw [h] at hs <;> simp [Bn, styL, List.lookup] at hs <;> rw [← hs]
  refine AA (BA rfl rfl (by omega) (AC (AD rfl ?_)))
  repeat first | refine nx rfl ?_ | refine nf rfl ?_
  refine AA (BA rfl rfl (by omega) (AC (AD rfl ?_)))
  repeat first | refine nx rfl ?_ | refine nf rfl ?_
  refine AA (BA rfl rfl (by omega) (AC (AD rfl ?_)))
  repeat first | refine nx rfl ?_ | refine nf rfl ?_
  refine AA (BA rfl rfl (by omega) (AC (AD rfl ?_)))
  repeat first | refine nx rfl ?_ | refine nf rfl ?_
  rcases o16 with h16 | h17
  ·refine AA (BQ rfl rfl (by omega) (AC (AD rfl ?_)))
   repeat refine nx rfl ?_
   by_cases hvu : f.val = (s.usual : Int)
   ·refine B5 (.read 0 (.read 1 (.read 2 (.read 3 (.read 4 (.read 5 (.read 6 .done))))))) BC (by kernel_rfl) (by repeat (first | exact BZ | refine BJ ?_ | refine B3 ?_)) (fun wd kd ed => ⟨Ext wd, ?_, ?_⟩)
    ·exact Ext.refl _
    have bd := b1.keep kd (by simp)
    have fn : ∀ W, Ext wd W → W.cell? ⟨b, o + 1, none⟩ = some (AI f.name) := fun W e => ((k1.trans kd).trans e).cell (hcl 1 _ rfl) (by simp)
    have fv : ∀ W, Ext wd W → W.cell? ⟨b, o + 2, none⟩ = some (.int .i64 f.val) := fun W e => ((k1.trans kd).trans e).cell (hcl 2 _ rfl) (by simp)
    have fb : ∀ W, Ext wd W → W.cell? ⟨b, o + 3, none⟩ = some (.int .i64 f.bound) := fun W e => ((k1.trans kd).trans e).cell (hcl 3 _ rfl) (by simp)
    have g0 : ∀ W, Ext wd W → W.cell? ⟨w.heap.size, 0 + 0, none⟩ = some (AI s.sign) := fun W e => (bd.keep e (by simp)).cell rfl
    have g8 : ∀ W, Ext wd W → W.cell? ⟨w.heap.size, 0 + 8, none⟩ = some (.int .i64 (s.usual : Int)) := fun W e => (bd.keep e (by simp)).cell rfl
    refine D_R rfl rfl (fun W hW => AK rfl Z3) (D_R rfl rfl (fun W hW => AF rfl Z3) (D_R rfl rfl (fun W hW => AB rfl Z3) (D_R rfl rfl (fun W hW => AG rfl (fv W hW) Z3) (D_R rfl rfl (fun W hW => AB rfl Z3) (D_R rfl rfl (fun W hW => AG rfl (g8 W hW) Z3) (D_eqlT rfl rfl rfl rfl (by omega) (Ax ?_)))))))
    repeat refine nx rfl ?_
    have g1 := g0 _ (Ext.refl _)
    refine AA (AB rfl (AG rfl (Blk.cell (by assumption) (by rfl)) ?_))
    refine W_sadd rfl rfl (by simp; omega) ?_
    refine AC (AX rfl ?_)
    repeat refine nx rfl ?_
    have e : sgT f.op f.name f.val f.bound = s.sign ++ [32] := by
     unfold sgT
     rw [esd]
     simp [h16, hvu]
    exact AQ rfl ⟨by rw [e]; rfl, k1.trans kd, fun h => absurd h o3⟩
   ·refine B5 (.read 0 (.read 1 (.read 2 (.read 3 (.read 4 (.read 5 (.read 6 .done))))))) BC (by kernel_rfl) (by repeat (first | exact BZ | refine BJ ?_ | refine B3 ?_)) (fun wd kd ed => ⟨Ext wd, ?_, ?_⟩)
    ·exact Ext.refl _
    have bd := b1.keep kd (by simp)
    have fn : ∀ W, Ext wd W → W.cell? ⟨b, o + 1, none⟩ = some (AI f.name) := fun W e => ((k1.trans kd).trans e).cell (hcl 1 _ rfl) (by simp)
    have fv : ∀ W, Ext wd W → W.cell? ⟨b, o + 2, none⟩ = some (.int .i64 f.val) := fun W e => ((k1.trans kd).trans e).cell (hcl 2 _ rfl) (by simp)
    have fb : ∀ W, Ext wd W → W.cell? ⟨b, o + 3, none⟩ = some (.int .i64 f.bound) := fun W e => ((k1.trans kd).trans e).cell (hcl 3 _ rfl) (by simp)
    have g0 : ∀ W, Ext wd W → W.cell? ⟨w.heap.size, 0 + 0, none⟩ = some (AI s.sign) := fun W e => (bd.keep e (by simp)).cell rfl
    have g8 : ∀ W, Ext wd W → W.cell? ⟨w.heap.size, 0 + 8, none⟩ = some (.int .i64 (s.usual : Int)) := fun W e => (bd.keep e (by simp)).cell rfl
    refine D_R rfl rfl (fun W hW => AK rfl Z3) (D_R rfl rfl (fun W hW => AF rfl Z3) (D_R rfl rfl (fun W hW => AB rfl Z3) (D_R rfl rfl (fun W hW => AG rfl (fv W hW) Z3) (D_R rfl rfl (fun W hW => AB rfl Z3) (D_R rfl rfl (fun W hW => AG rfl (g8 W hW) Z3) (D_eqlF rfl rfl rfl rfl (by omega) (Ax ?_)))))))
    repeat first | refine nx rfl ?_ | refine nf rfl ?_
    replace k1 := k1.trans kd
    replace b1 := bd
    clear fn fv fb g0 g8 bd kd ed
    refine B5 (.read 0 (.read 1 (.read 2 (.read 3 (.read 4 (.read 5 (.read 6 (.alt 7 (.read 8 (.read 9 (.read 10 .done))) .stop)))))))) BC (by kernel_rfl) (by repeat (first | exact BZ | refine BJ ?_ | refine B3 ?_)) (fun wd kd ed => ⟨Ext wd, ?_, ?_⟩)
    ·exact Ext.refl _
    have bd := b1.keep kd (by simp)
    have fn : ∀ W, Ext wd W → W.cell? ⟨b, o + 1, none⟩ = some (AI f.name) := fun W e => ((k1.trans kd).trans e).cell (hcl 1 _ rfl) (by simp)
    have fv : ∀ W, Ext wd W → W.cell? ⟨b, o + 2, none⟩ = some (.int .i64 f.val) := fun W e => ((k1.trans kd).trans e).cell (hcl 2 _ rfl) (by simp)
    have fb : ∀ W, Ext wd W → W.cell? ⟨b, o + 3, none⟩ = some (.int .i64 f.bound) := fun W e => ((k1.trans kd).trans e).cell (hcl 3 _ rfl) (by simp)
    have g0 : ∀ W, Ext wd W → W.cell? ⟨w.heap.size, 0 + 0, none⟩ = some (AI s.sign) := fun W e => (bd.keep e (by simp)).cell rfl
    have g8 : ∀ W, Ext wd W → W.cell? ⟨w.heap.size, 0 + 8, none⟩ = some (.int .i64 (s.usual : Int)) := fun W e => (bd.keep e (by simp)).cell rfl
    refine D_R rfl rfl (fun W hW => AB rfl Z3) (D_R rfl rfl (fun W hW => AG rfl (g0 W hW) Z3) ?_)
    (apply D_R rfl rfl; (intro W hW; (refine W_sadd rfl rfl (by (try simp); omega) ?_); exact AJ ⟨rfl, rfl, rfl⟩))
    refine D_R rfl rfl (fun W hW => AK rfl Z3) (D_R rfl rfl (fun W hW => AF rfl Z3) (D_R rfl rfl (fun W hW => AB rfl Z3) (D_R rfl rfl (fun W hW => AG rfl (fv W hW) Z3) ?_)))
    refine D_E rfl ?_
    refine Aa (wnumber_ok wd f.val (hG.ext (k1.trans kd))) rfl ?_ ?_
    rotate_left
    ·rintro ch w3 ⟨rfl, hb2, rfl⟩
     rw [numB_of h1 (by omega)] at hb2; cases hb2
    rintro v w3 ⟨rfl, _, k3⟩
    have hnn := numT_len (n := f.val) (by omega)
    refine AJ ⟨Ext w3, fun _ e => k3.trans e, Ext.refl _, ?_⟩
    (apply D_R rfl rfl; (intro W hW; (refine W_sadd rfl rfl (by (try simp); omega) ?_); exact AJ ⟨rfl, rfl, rfl⟩))
    (apply D_R rfl rfl; (intro W hW; (refine W_sadd rfl rfl (by (try simp); omega) ?_); exact AJ ⟨rfl, rfl, rfl⟩))
    refine D_R rfl rfl (fun W hW => AC (AX rfl Z3)) (Ax ?_)
    repeat refine nx rfl ?_
    have e : sgT f.op f.name f.val f.bound = s.sign ++ [91] ++ CN f.val ++ [93, 32] := by
     unfold sgT
     rw [esd]
     simp [h16, hvu]
    exact AQ rfl ⟨by rw [e]; rfl, (k1.trans kd).trans k3, fun h => absurd h o3⟩
  ·refine AA (BA rfl rfl (by omega) (AC (AD rfl ?_)))
   repeat first | refine nx rfl ?_ | refine nf rfl ?_
   refine AA (BQ rfl rfl (by omega) (AC (AD rfl ?_)))
   repeat refine nx rfl ?_
   by_cases hvu : f.val = (s.usual : Int)
   ·refine B5 (.read 0 (.read 1 (.read 2 (.read 3 (.read 4 (.read 5 (.read 6 .done))))))) BC (by kernel_rfl) (by repeat (first | exact BZ | refine BJ ?_ | refine B3 ?_)) (fun wd kd ed => ⟨Ext wd, ?_, ?_⟩)
    ·exact Ext.refl _
    have bd := b1.keep kd (by simp)
    have fn : ∀ W, Ext wd W → W.cell? ⟨b, o + 1, none⟩ = some (AI f.name) := fun W e => ((k1.trans kd).trans e).cell (hcl 1 _ rfl) (by simp)
    have fv : ∀ W, Ext wd W → W.cell? ⟨b, o + 2, none⟩ = some (.int .i64 f.val) := fun W e => ((k1.trans kd).trans e).cell (hcl 2 _ rfl) (by simp)
    have fb : ∀ W, Ext wd W → W.cell? ⟨b, o + 3, none⟩ = some (.int .i64 f.bound) := fun W e => ((k1.trans kd).trans e).cell (hcl 3 _ rfl) (by simp)
    have g0 : ∀ W, Ext wd W → W.cell? ⟨w.heap.size, 0 + 0, none⟩ = some (AI s.sign) := fun W e => (bd.keep e (by simp)).cell rfl
    have g8 : ∀ W, Ext wd W → W.cell? ⟨w.heap.size, 0 + 8, none⟩ = some (.int .i64 (s.usual : Int)) := fun W e => (bd.keep e (by simp)).cell rfl
    refine D_R rfl rfl (fun W hW => AK rfl Z3) (D_R rfl rfl (fun W hW => AF rfl Z3) (D_R rfl rfl (fun W hW => AB rfl Z3) (D_R rfl rfl (fun W hW => AG rfl (fv W hW) Z3) (D_R rfl rfl (fun W hW => AB rfl Z3) (D_R rfl rfl (fun W hW => AG rfl (g8 W hW) Z3) (D_eqlT rfl rfl rfl rfl (by omega) (Ax ?_)))))))
    repeat refine nx rfl ?_
    have g1 := g0 _ (Ext.refl _)
    refine AA (AB rfl (AG rfl (Blk.cell (by assumption) (by rfl)) ?_))
    refine W_sadd rfl rfl (by simp; omega) ?_
    refine AC (AX rfl ?_)
    repeat refine nx rfl ?_
    have e : sgT f.op f.name f.val f.bound = s.sign ++ [32] := by
     unfold sgT
     rw [esd]
     simp [h17, hvu]
    exact AQ rfl ⟨by rw [e]; rfl, k1.trans kd, fun h => absurd h o3⟩
   ·refine B5 (.read 0 (.read 1 (.read 2 (.read 3 (.read 4 (.read 5 (.read 6 .done))))))) BC (by kernel_rfl) (by repeat (first | exact BZ | refine BJ ?_ | refine B3 ?_)) (fun wd kd ed => ⟨Ext wd, ?_, ?_⟩)
    ·exact Ext.refl _
    have bd := b1.keep kd (by simp)
    have fn : ∀ W, Ext wd W → W.cell? ⟨b, o + 1, none⟩ = some (AI f.name) := fun W e => ((k1.trans kd).trans e).cell (hcl 1 _ rfl) (by simp)
    have fv : ∀ W, Ext wd W → W.cell? ⟨b, o + 2, none⟩ = some (.int .i64 f.val) := fun W e => ((k1.trans kd).trans e).cell (hcl 2 _ rfl) (by simp)
    have fb : ∀ W, Ext wd W → W.cell? ⟨b, o + 3, none⟩ = some (.int .i64 f.bound) := fun W e => ((k1.trans kd).trans e).cell (hcl 3 _ rfl) (by simp)
    have g0 : ∀ W, Ext wd W → W.cell? ⟨w.heap.size, 0 + 0, none⟩ = some (AI s.sign) := fun W e => (bd.keep e (by simp)).cell rfl
    have g8 : ∀ W, Ext wd W → W.cell? ⟨w.heap.size, 0 + 8, none⟩ = some (.int .i64 (s.usual : Int)) := fun W e => (bd.keep e (by simp)).cell rfl
    refine D_R rfl rfl (fun W hW => AK rfl Z3) (D_R rfl rfl (fun W hW => AF rfl Z3) (D_R rfl rfl (fun W hW => AB rfl Z3) (D_R rfl rfl (fun W hW => AG rfl (fv W hW) Z3) (D_R rfl rfl (fun W hW => AB rfl Z3) (D_R rfl rfl (fun W hW => AG rfl (g8 W hW) Z3) (D_eqlF rfl rfl rfl rfl (by omega) (Ax ?_)))))))
    repeat first | refine nx rfl ?_ | refine nf rfl ?_
    replace k1 := k1.trans kd
    replace b1 := bd
    clear fn fv fb g0 g8 bd kd ed
    refine B5 (.read 0 (.read 1 (.read 2 (.read 3 (.read 4 (.read 5 (.read 6 (.alt 7 (.read 8 (.read 9 (.read 10 .done))) .stop)))))))) BC (by kernel_rfl) (by repeat (first | exact BZ | refine BJ ?_ | refine B3 ?_)) (fun wd kd ed => ⟨Ext wd, ?_, ?_⟩)
    ·exact Ext.refl _
    have bd := b1.keep kd (by simp)
    have fn : ∀ W, Ext wd W → W.cell? ⟨b, o + 1, none⟩ = some (AI f.name) := fun W e => ((k1.trans kd).trans e).cell (hcl 1 _ rfl) (by simp)
    have fv : ∀ W, Ext wd W → W.cell? ⟨b, o + 2, none⟩ = some (.int .i64 f.val) := fun W e => ((k1.trans kd).trans e).cell (hcl 2 _ rfl) (by simp)
    have fb : ∀ W, Ext wd W → W.cell? ⟨b, o + 3, none⟩ = some (.int .i64 f.bound) := fun W e => ((k1.trans kd).trans e).cell (hcl 3 _ rfl) (by simp)
    have g0 : ∀ W, Ext wd W → W.cell? ⟨w.heap.size, 0 + 0, none⟩ = some (AI s.sign) := fun W e => (bd.keep e (by simp)).cell rfl
    have g8 : ∀ W, Ext wd W → W.cell? ⟨w.heap.size, 0 + 8, none⟩ = some (.int .i64 (s.usual : Int)) := fun W e => (bd.keep e (by simp)).cell rfl
    refine D_R rfl rfl (fun W hW => AB rfl Z3) (D_R rfl rfl (fun W hW => AG rfl (g0 W hW) Z3) ?_)
    (apply D_R rfl rfl; (intro W hW; (refine W_sadd rfl rfl (by (try simp); omega) ?_); exact AJ ⟨rfl, rfl, rfl⟩))
    refine D_R rfl rfl (fun W hW => AK rfl Z3) (D_R rfl rfl (fun W hW => AF rfl Z3) (D_R rfl rfl (fun W hW => AB rfl Z3) (D_R rfl rfl (fun W hW => AG rfl (fv W hW) Z3) ?_)))
    refine D_E rfl ?_
    refine Aa (wnumber_ok wd f.val (hG.ext (k1.trans kd))) rfl ?_ ?_
    rotate_left
    ·rintro ch w3 ⟨rfl, hb2, rfl⟩
     rw [numB_of h1 (by omega)] at hb2; cases hb2
    rintro v w3 ⟨rfl, _, k3⟩
    have hnn := numT_len (n := f.val) (by omega)
    refine AJ ⟨Ext w3, fun _ e => k3.trans e, Ext.refl _, ?_⟩
    (apply D_R rfl rfl; (intro W hW; (refine W_sadd rfl rfl (by (try simp); omega) ?_); exact AJ ⟨rfl, rfl, rfl⟩))
    (apply D_R rfl rfl; (intro W hW; (refine W_sadd rfl rfl (by (try simp); omega) ?_); exact AJ ⟨rfl, rfl, rfl⟩))
    refine D_R rfl rfl (fun W hW => AC (AX rfl Z3)) (Ax ?_)
    repeat refine nx rfl ?_
    have e : sgT f.op f.name f.val f.bound = s.sign ++ [91] ++ CN f.val ++ [93, 32] := by
     unfold sgT
     rw [esd]
     simp [h17, hvu]
    exact AQ rfl ⟨by rw [e]; rfl, (k1.trans kd).trans k3, fun h => absurd h o3⟩
 ·refine AA (BA rfl rfl (by omega) (AC (AD rfl ?_)))
  repeat first | refine nx rfl ?_ | refine nf rfl ?_
  refine AA (BA rfl rfl (by omega) (AC (AD rfl ?_)))
  repeat first | refine nx rfl ?_ | refine nf rfl ?_
  refine AA (BA rfl rfl (by omega) (AC (AD rfl ?_)))
  repeat first | refine nx rfl ?_ | refine nf rfl ?_
  refine AA (BA rfl rfl (by omega) (AC (AD rfl ?_)))
  repeat first | refine nx rfl ?_ | refine nf rfl ?_
  refine AA (BA rfl rfl (by omega) (AC (AD rfl ?_)))
  repeat first | refine nx rfl ?_ | refine nf rfl ?_
  refine AA (BA rfl rfl (by omega) (AC (AD rfl ?_)))
  repeat first | refine nx rfl ?_ | refine nf rfl ?_
  have g1 : w1.cell? ⟨w.heap.size, 0 + 0, none⟩ = some (AI s.sign) := b1.cell rfl
  (refine AA (AB rfl (AG rfl (Blk.cell (by assumption) (by rfl)) ?_)) <;> refine AC (AX rfl ?_))
  repeat refine nx rfl ?_
  have e : sgT f.op f.name f.val f.bound = s.sign := by simp [sgT, o3, o13, o15, o16, esd]
  exact AQ rfl ⟨by rw [e]; rfl, k1, fun h => absurd h o3⟩
end Go.Proofs.YtfcgdbmoncnibaaGreatDoor
namespace Go.Proofs.YtfcgdbmoncnibaaGreatDoor
open Go.RowKit
set_option linter.unusedVariables false
inductive Pc where
 | txt (t : List UInt8)
 | sub (f : Fml) (n : Nat)
def subC (b o n : Nat) : List Value := [AI [], .pointer (some ⟨b, o, none⟩), .int .i64 (n : Int)]
def txtC (t : List UInt8) : List Value := [AI t, .pointer none, .int .i64 0]
def pcFits (ok : Nat → Prop) (w : World) (c : List Value) : Pc → Prop
 | .txt t => c = txtC t
 | .sub f n => ∃ b o, c = subC b o n ∧ PF ok w b o f
def pcR : Rp Pc where
 fits := pcFits
 size := 3
 len {ok w c a} h := by
  cases a with
  | txt t => have h : c = txtC t := h; subst h; rfl
  | sub f n => obtain ⟨b, o, rfl, _⟩ := h; rfl
 one {ok w c a} h := by
  cases a with
  | txt t =>
   have h : c = txtC t := h
   subst h; intro u hu; simp [txtC] at hu; rcases hu with rfl | rfl | rfl <;> rfl
  | sub f n => obtain ⟨b, o, rfl, _⟩ := h; intro u hu; simp [subC] at hu; rcases hu with rfl | rfl | rfl <;> rfl
 keep {ok X w w' c a} h k hX := by
  cases a with
  | txt t => exact h
  | sub f n => obtain ⟨b, o, e, hp⟩ := h; exact ⟨b, o, e, hp.keep k hX⟩
 lt {ok w c a} h := by
  cases a with
  | txt t => exact h
  | sub f n => obtain ⟨b, o, e, hp⟩ := h; exact ⟨b, o, e, hp.lt⟩
 mono {ok ok' w c a} h hk := by
  cases a with
  | txt t => exact h
  | sub f n => obtain ⟨b, o, e, hp⟩ := h; exact ⟨b, o, e, hp.mono hk⟩
def argP (next : Nat) (sg : List UInt8) : List Fml → List Pc
 | [] => []
 | a :: l => .txt sg :: .sub a next :: argP next sg l
def Co (first next : Nat) (sg : List UInt8) : List Fml → List Pc
 | [] => []
 | a :: l => .sub a first :: argP next sg l
theorem argP_len (next : Nat) (sg : List UInt8) : ∀ l, (argP next sg l).length = 2 * l.length
 | [] => rfl
 | a :: l => by simp [argP, argP_len next sg l]; omega
theorem argP_snoc (next : Nat) (sg : List UInt8) (a : Fml) : ∀ l, argP next sg (l ++ [a]) = argP next sg l ++ [.txt sg, .sub a next]
 | [] => rfl
 | c :: l => by simp [argP, argP_snoc next sg a l]
theorem argsP_snoc {first next : Nat} {sg : List UInt8} {a : Fml} {l : List Fml} (h : l ≠ []) : Co first next sg (l ++ [a]) = Co first next sg l ++ [.txt sg, .sub a next] := by
 cases l with
 | nil => exact absurd rfl h
 | cons c l => simp [Co, argP_snoc]
theorem argsP_len (first next : Nat) (sg : List UInt8) (l : List Fml) : (Co first next sg l).length ≤ 2 * l.length := by
 cases l with
 | nil => simp [Co]
 | cons a l => simp [Co, argP_len]; omega
def DF (s : Sty) (n : Nat) : List Pc := if s.level < n then [.txt [40]] else []
def DX (s : Sty) (n : Nat) : List Pc := if s.level < n then [.txt [41]] else []
def Cm (sg : List UInt8) (k : Nat) : List Pc := if k < 2 then [.txt sg] else []
def pcs (s : Sty) (n : Nat) (f : Fml) : List Pc :=
 DF s n ++ Cm (sgT f.op f.name f.val f.bound) f.args.length ++ Co s.first s.next (sgT f.op f.name f.val f.bound) f.args ++ DX s n
structure PS (C B : Nat) (v : Value) (L : List (List Value)) (ps : List Pc) (W : World) : Prop where
 own : W.ownsRow B 125 3 v ps.length L.flatten
 rs : RsAt pcR (fun b => b < C) W L ps
 le : C ≤ B
theorem PS.ext {C B : Nat} {v : Value} {L : List (List Value)} {ps : List Pc} {W W' : World} (h : PS C B v L ps W) (k : Ext W W') : PS C B v L ps W' := ⟨B6 h.own k, h.rs.ext k, h.le⟩
theorem PS.app {C B : Nat} {v v2 : Value} {L M : List (List Value)} {ps qs : List Pc} {W1 W2 : World} (h : PS C B v L ps W1) (a : Apd W1 W2 B 125 3 v v2 (ps.length + qs.length) (L.flatten ++ M.flatten)) (hq : RsAt pcR (fun b => b < C) W1 M qs) : PS C B v2 (L ++ M) (ps ++ qs) W2 := by
 have hX : ∀ b, b < C → b ∉ v.ownBlock.toList := fun b hb hx => by
  have := (Bt h.own (Option.mem_toList.1 hx)).1; have := h.le; omega
 refine ⟨?_, (h.rs.keep a.keep hX).app (hq.keep a.keep hX), h.le⟩
 rw [List.length_append, List.flatten_append]
 exact a.own
theorem PS.nil {C B : Nat} (h : C ≤ B) (W : World) : PS C B (.slice none 0 0) [] [] W := ⟨⟨by simp, .inl ⟨rfl, rfl⟩⟩, RsAt.nil, h⟩
theorem txt_fits (ok : Nat → Prop) (w : World) (t : List UInt8) : RsAt pcR ok w [txtC t] [.txt t] := RsAt.one (R := pcR) (a := .txt t) rfl
theorem PS.form {C B : Nat} {v : Value} {L : List (List Value)} {ps : List Pc} {W : World} (h : PS C B v L ps W) : ∃ a c, v = .slice a ps.length c := by
 rcases h.own.2 with ⟨rfl, h0⟩ | ⟨g, cap, cur, rfl, _⟩
 ·exact ⟨none, 0, by rw [h0]⟩
 ·exact ⟨_, _, rfl⟩
def outP : Pc → List UInt8
 | .txt t => t
 | .sub f n => prF n f
theorem out_argP (next : Nat) (sg : List UInt8) : ∀ l, (argP next sg l).flatMap outP = prR next sg l
 | [] => by simp [argP, prR]
 | a :: l => by simp [argP, prR, outP, out_argP next sg l]
theorem out_pcs {f : Fml} {s : Sty} (hs : Bn f.op = some s) (n : Nat) : (pcs s n f).flatMap outP = prF n f := by
 have esd : BR f.op = s := by unfold BR; rw [hs]; rfl
 cases f with
 | mk op nm v b args =>
  have esd : BR op = s := esd
  simp only [prF, esd]
  have hA : (Cm (sgT op nm v b) args.length ++ Co s.first s.next (sgT op nm v b) args).flatMap outP = prA s.first s.next (sgT op nm v b) args := by
   cases args with
   | nil => simp [Cm, Co, prA, outP]
   | cons a l =>
    cases l with
    | nil => simp [Cm, Co, argP, prA, prR, outP]
    | cons c l =>
     have h2 : ¬ (l.length + 1 + 1 < 2) := by omega
     simp [Cm, Co, prA, outP, out_argP, h2]
  have e : pcs s n (.mk op nm v b args) = DF s n ++ (Cm (sgT op nm v b) args.length ++ Co s.first s.next (sgT op nm v b) args) ++ DX s n := by
   show DF s n ++ Cm (sgT op nm v b) args.length ++ Co s.first s.next (sgT op nm v b) args ++ DX s n = _
   simp
  rw [e, List.flatMap_append, List.flatMap_append, hA]
  by_cases hl : s.level < n
  ·simp [DF, DX, hl, wrapT, outP]
  ·simp [DF, DX, hl, wrapT]
end Go.Proofs.YtfcgdbmoncnibaaGreatDoor
