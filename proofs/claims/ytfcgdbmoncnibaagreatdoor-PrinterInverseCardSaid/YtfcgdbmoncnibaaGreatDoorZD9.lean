/- The printer's laws: the example. The parser's plain law: where formulas stop, formulas in parentheses, operators between and ahead. The printer's plain law: texts that read as tokens, from the right, without limits. The printer's plain law: the text of a formula and its tokens. The printer's plain law: the text of a formula reads as its tokens. Rules for maps from integers to values: made, filled, looked up. A rule for a statement whose order is drawn: an invariant over what has been done. The printer: the table of styles, whatever the order in which it is filled. Conditions: none. -/
import Derived.Test.YtfcgdbmoncnibaaGreatDoorZD8
import Derived.Maps.RangeRun

namespace Go.Proofs.YtfcgdbmoncnibaaGreatDoor
open Go.RowKit
set_option linter.unusedVariables false
theorem madeReq3 : (madeCells (Value.agg #[AK [], AK [], .int .i64 0, .int .i64 0, AK [], .int .i64 0, .int .i64 0, .slice none 0 0]).cells (3 * 8)).toList = [AK [], AK [], .int .i64 0, .int .i64 0, AK [], .int .i64 0, .int .i64 0, .slice none 0 0, AK [], AK [], .int .i64 0, .int .i64 0, AK [], .int .i64 0, .int .i64 0, .slice none 0 0, AK [], AK [], .int .i64 0, .int .i64 0, AK [], .int .i64 0, .int .i64 0, .slice none 0 0] := by kernel_rfl
def exF : Fml := ⟨12, [], 0, 0, [⟨7, [], 0, 0, [isF [114] 1, ⟨13, [], 0, 3, [isF [103] 1]⟩]⟩]⟩
def exT : Fml := ⟨1, [], 0, 0, []⟩
def exS : Spc := ⟨[⟨[114], true, 2⟩, ⟨[103], false, 3⟩], [⟨[112], [111, 110, 101], 2, exF⟩, ⟨[112], [116, 119, 111], 1, exT⟩, ⟨[113], [111, 110, 101], 2, isF [103] 2⟩]⟩
theorem FAt.fives {ok : Nat → Prop} {w : World} {v : Value} {f : Fml} (h : FAt ok w v f) : ∃ c0 c1 c2 c3 c4, v = .agg [c0, c1, c2, c3, c4].toArray ∧ oneC [c0, c1, c2, c3, c4] := by
 obtain ⟨cs, rfl, hcs, hone⟩ := FAt.cells h
 obtain ⟨c0, c1, c2, c3, c4, rfl⟩ := Cx hcs
 exact ⟨_, _, _, _, _, rfl, hone⟩
theorem example_ok (w : World) : Fn Tryz.prog 32 [] w fun v w' => ∃ c, v = .agg c.toArray ∧ spcR.fits A1 w' c exS ∧ Ext w w' := by
 refine Ae Tryz.func32 rfl Tryz.ntmps32 (Nat.le_of_ble_eq_true rfl) (by kernel_rfl) ?_
 repeat refine nx rfl ?_
 (refine AA ?_; refine Av (fun w1 n1 => ?_))
 have b0 : Blk w1 w.heap.size 28 [.slice none 0 0, .slice none 0 0] := n1.blk
 have z1 := n1.size
 repeat refine nx rfl ?_
 refine AA ?_
 refine AS (ris_ok w1 [114] 1) rfl ?_
 rintro vr w2 ⟨k2, fr⟩
 refine AS (ris_ok w2 [103] 1) rfl ?_
 rintro vg w3 ⟨k3, fg⟩
 obtain ⟨g0, g1, g2, g3, g4, rfl, og⟩ := FV.five fg
 refine AW (out := [g0, g1, g2, g3, g4]) rfl (by omega) (by rw [made5]; rfl) (fun w4 n4 => ?_)
 have z4 : w.heap.size < w3.heap.size := by have := k2.size; have := k3.size; omega
 obtain ⟨S4, F4⟩ := FsAt.fresh (ok := fun b => b ≠ w.heap.size) (L := [[g0, g1, g2, g3, g4]]) n4 (FsAt.one (fg.any rfl) rfl) (by simp; omega) (by simp)
 refine Af (by rfl) (by rfl) ?_
 refine AS (rtwoX_ok w4 7 (fun b => b ≠ w.heap.size) _ _ (isF [114] 1) ⟨13, [], 0, 3, [isF [103] 1]⟩ (fr.any rfl) (FAt.node 13 [] 0 3 S4 F4) (fun x hx => by have := n4.keep.size; omega)) rfl ?_
 rintro va w5 ⟨k5, fa⟩
 refine AS (roneX_ok w5 12 (fun b => b ≠ w.heap.size) _ _ fa (by have := k5.size; have := n4.keep.size; omega) (fun x hx => by have := k5.size; have := n4.keep.size; omega)) rfl ?_
 rintro vf w6 ⟨k6, fF⟩
 obtain ⟨f0, f1, f2, f3, f4, rfl, of⟩ := FAt.fives fF
 refine A7 (cs := [f0, f1, f2, f3, f4]) rfl rfl (by rfl) of (fun w7 n7 => ?_)
 have z6 : w.heap.size < w6.heap.size := by have := k6.size; have := k5.size; have := n4.keep.size; omega
 have b7 := n7.blk
 have k7 : Ext w1 w7 := ((((k2.trans k3).trans n4.keep).trans k5).trans k6).trans n7.keep
 replace b0 := b0.keep k7 (by simp)
 replace fF := fF.ext n7.keep
 clear fr fg fa S4 F4
 repeat refine nx rfl ?_
 refine A3 (.read 0 (.read 1 (.read 3 (.read 4 (.alt 2 (.alt 5 (.read 6 (.alt 7 (.read 8 (.alt 9 (.read 10 (.alt 11 .done .stop)) .stop)) .stop)) .stop) (.alt 5 (.read 6 (.alt 2 (.alt 7 (.read 8 (.alt 9 (.read 10 (.alt 11 .done .stop)) .stop)) .stop) (.alt 7 (.read 8 (.alt 2 (.alt 9 (.read 10 (.alt 11 .done .stop)) .stop) (.alt 9 (.alt 2 (.read 10 (.alt 11 .done .stop)) .stop) .stop))) .stop))) .stop)))))) BA (by kernel_rfl) (fun wd kd ed => ⟨Keep [w.heap.size] wd, ?_, ?_⟩)
 ·exact Keep.refl _ _
 have ca : ∀ W, Keep [w.heap.size] wd W → Cells W w6.heap.size 0 [f0, f1, f2, f3, f4] := fun W e => ((b7.keep kd (by simp)).keep e (by simp; omega)).cells
 replace fF := fF.ext kd
 replace b0 := b0.keep kd (by simp)
 have k0 := k7.trans kd
 have lz := k0.size
 have er : Ext wd wd := Ext.refl _
 ((apply D_R rfl rfl; (intro W hW; refine Af (by rfl) (by rfl) ?_; exact Z3)) <;> (apply D_R rfl rfl; (intro W hW; refine Af (by rfl) (by rfl) ?_; exact Z3)) <;> (apply D_R rfl rfl; (intro W hW; refine Ad rfl (by rfl) (ca W hW) ?_; exact Z3)) <;> (apply D_R rfl rfl; (intro W hW; refine Af (by rfl) (by rfl) ?_; exact Z3)))
 refine D_A rfl ?_ ?_
 ·refine AW (out := Cm ⟨[114], true, 2⟩ ++ Cm ⟨[103], false, 3⟩) rfl (by omega) (by rw [madeSgn2]; rfl) (fun v2 m2 => ?_)
  have bs := m2.blk
  have e2 := er.trans m2.keep
  have l2 := e2.size
  replace fF := fF.ext m2.keep
  try replace ft := ft.ext m2.keep
  try replace fq := fq.ext m2.keep
  try replace br := br.keep m2.keep (by simp)
  refine AJ ⟨Keep [w.heap.size] wd, fun _ e => e, e2.any, ?_⟩
  refine D_E rfl ?_
  refine AS (rtrue_ok v2) rfl ?_
  rintro vt v5 ⟨q5, ft⟩
  obtain ⟨t0, t1, t2, t3, t4, rfl, ot⟩ := FV.five ft
  have e5 := e2.trans q5
  have l5 := e5.size
  replace fF := fF.ext q5
  try replace bs := bs.keep q5 (by simp)
  refine AJ ⟨Keep [w.heap.size] wd, fun _ e => e, e5.any, ?_⟩
  ((apply D_R rfl rfl; (intro W hW; refine Af (by rfl) (by rfl) ?_; exact AJ ⟨rfl, rfl, rfl⟩)))
  refine D_E rfl ?_
  refine AS (ris_ok v5 [103] 2) rfl ?_
  rintro vq v7 ⟨q7, fq⟩
  obtain ⟨q0, q1, q2, q3, q4, rfl, oq⟩ := FV.five fq
  have e7 := e5.trans q7
  have l7 := e7.size
  replace fF := fF.ext q7
  replace ft := ft.ext q7
  try replace bs := bs.keep q7 (by simp)
  refine AJ ⟨Keep [w.heap.size] wd, fun _ e => e, e7.any, ?_⟩
  ((apply D_R rfl rfl; (intro W hW; refine Af (by rfl) (by rfl) ?_; exact AJ ⟨rfl, rfl, rfl⟩)))
  refine D_E rfl ?_
  refine AW (out := [AK [112], AK [111, 110, 101], .int .i64 2] ++ [f0, f1, f2, f3, f4] ++ ([AK [112], AK [116, 119, 111], .int .i64 1] ++ [t0, t1, t2, t3, t4]) ++ ([AK [113], AK [111, 110, 101], .int .i64 2] ++ [q0, q1, q2, q3, q4])) rfl (by omega) (by rw [madeReq3]; rfl) (fun v9 m9 => ?_)
  have br := m9.blk
  have e9 := e7.trans m9.keep
  have l9 := e9.size
  replace fF := fF.ext m9.keep
  replace ft := ft.ext m9.keep
  replace fq := fq.ext m9.keep
  try replace bs := bs.keep m9.keep (by simp)
  refine AJ ⟨Keep [w.heap.size] wd, fun _ e => e, e9.any, ?_⟩
  ((apply D_R rfl rfl; (intro W hW; refine Af (by rfl) (by rfl) ?_; exact AJ ⟨rfl, rfl, rfl⟩)))
  refine D_E rfl ?_
  have sz := e9.size
  have ls : w.heap.size < wd.heap.size := by omega
  have lr : w.heap.size < v7.heap.size := by omega
  refine AZ (cs := [.slice (some ⟨wd.heap.size, 0, none⟩) 2 2, .slice (some ⟨v7.heap.size, 0, none⟩) 3 3]) rfl rfl rfl (A5 rfl) (b0.keep e9 (by simp)) (by simp) (fun vz pz => ?_)
  have bz : Blk vz w.heap.size 28 [.slice (some ⟨wd.heap.size, 0, none⟩) 2 2, .slice (some ⟨v7.heap.size, 0, none⟩) 3 3] := pz.blk
  have kz : Keep [w.heap.size] wd vz := (e9.any).trans pz.keep (fun _ h _ => h)
  refine AJ ⟨Keep [w.heap.size] wd, fun _ e => e, kz, ?_⟩
  refine Ay ?_
  repeat refine nx rfl ?_
  refine A6 rfl rfl rfl bz.cells ⟨_, rfl, ?_, (n1.keep.trans k0).keep kz (by simp)⟩
  replace fF := (fF.keep pz.keep (fun b hb => by simpa using hb)).mono (ok' := A1) fun _ _ => trivial
  replace ft := (FAt.any (ok' := fun b => b ≠ w.heap.size) (w' := vz) ft rfl).mono (ok' := A1) fun _ _ => trivial
  replace fq := (FAt.any (ok' := fun b => b ≠ w.heap.size) (w' := vz) fq rfl).mono (ok' := A1) fun _ _ => trivial
  refine ⟨_, _, rfl, ⟨_, _, [Cm ⟨[114], true, 2⟩, Cm ⟨[103], false, 3⟩], rfl, ?_, ?_⟩, ⟨_, _, [[AK [112], AK [111, 110, 101], .int .i64 2] ++ [f0, f1, f2, f3, f4], [AK [112], AK [116, 119, 111], .int .i64 1] ++ [t0, t1, t2, t3, t4], [AK [113], AK [111, 110, 101], .int .i64 2] ++ [q0, q1, q2, q3, q4]], rfl, ?_, ?_⟩⟩
  ·exact ⟨_, _, rfl, Nat.le_refl _, by simp, (fun h => by cases h), .inr ⟨_, _, rfl, trivial, (bs.keep pz.keep (by simp; omega)).cells⟩⟩
  ·exact (RsAt.one (R := sgnR) rfl).app (RsAt.one (R := sgnR) rfl)
  ·exact ⟨_, _, rfl, Nat.le_refl _, by simp, (fun h => by cases h), .inr ⟨_, _, rfl, trivial, (br.keep pz.keep (by simp; omega)).cells⟩⟩
  ·exact ((RsAt.one (R := reqR) (c := [AK [112], AK [111, 110, 101], .int .i64 2] ++ [f0, f1, f2, f3, f4]) ⟨_, rfl, rfl, fF⟩).app (RsAt.one (R := reqR) (c := [AK [112], AK [116, 119, 111], .int .i64 1] ++ [t0, t1, t2, t3, t4]) ⟨_, rfl, rfl, ft⟩)).app (RsAt.one (R := reqR) (c := [AK [113], AK [111, 110, 101], .int .i64 2] ++ [q0, q1, q2, q3, q4]) ⟨_, rfl, rfl, fq⟩)
 ·refine D_E rfl ?_
  refine AS (rtrue_ok wd) rfl ?_
  rintro vt v5 ⟨q5, ft⟩
  obtain ⟨t0, t1, t2, t3, t4, rfl, ot⟩ := FV.five ft
  have e5 := er.trans q5
  have l5 := e5.size
  replace fF := fF.ext q5
  try replace bs := bs.keep q5 (by simp)
  refine AJ ⟨Keep [w.heap.size] wd, fun _ e => e, e5.any, ?_⟩
  ((apply D_R rfl rfl; (intro W hW; refine Af (by rfl) (by rfl) ?_; exact AJ ⟨rfl, rfl, rfl⟩)))
  refine D_A rfl ?_ ?_
  ·refine AW (out := Cm ⟨[114], true, 2⟩ ++ Cm ⟨[103], false, 3⟩) rfl (by omega) (by rw [madeSgn2]; rfl) (fun v2 m2 => ?_)
   have bs := m2.blk
   have e2 := e5.trans m2.keep
   have l2 := e2.size
   replace fF := fF.ext m2.keep
   try replace ft := ft.ext m2.keep
   try replace fq := fq.ext m2.keep
   try replace br := br.keep m2.keep (by simp)
   refine AJ ⟨Keep [w.heap.size] wd, fun _ e => e, e2.any, ?_⟩
   refine D_E rfl ?_
   refine AS (ris_ok v2 [103] 2) rfl ?_
   rintro vq v7 ⟨q7, fq⟩
   obtain ⟨q0, q1, q2, q3, q4, rfl, oq⟩ := FV.five fq
   have e7 := e2.trans q7
   have l7 := e7.size
   replace fF := fF.ext q7
   replace ft := ft.ext q7
   try replace bs := bs.keep q7 (by simp)
   refine AJ ⟨Keep [w.heap.size] wd, fun _ e => e, e7.any, ?_⟩
   ((apply D_R rfl rfl; (intro W hW; refine Af (by rfl) (by rfl) ?_; exact AJ ⟨rfl, rfl, rfl⟩)))
   refine D_E rfl ?_
   refine AW (out := [AK [112], AK [111, 110, 101], .int .i64 2] ++ [f0, f1, f2, f3, f4] ++ ([AK [112], AK [116, 119, 111], .int .i64 1] ++ [t0, t1, t2, t3, t4]) ++ ([AK [113], AK [111, 110, 101], .int .i64 2] ++ [q0, q1, q2, q3, q4])) rfl (by omega) (by rw [madeReq3]; rfl) (fun v9 m9 => ?_)
   have br := m9.blk
   have e9 := e7.trans m9.keep
   have l9 := e9.size
   replace fF := fF.ext m9.keep
   replace ft := ft.ext m9.keep
   replace fq := fq.ext m9.keep
   try replace bs := bs.keep m9.keep (by simp)
   refine AJ ⟨Keep [w.heap.size] wd, fun _ e => e, e9.any, ?_⟩
   ((apply D_R rfl rfl; (intro W hW; refine Af (by rfl) (by rfl) ?_; exact AJ ⟨rfl, rfl, rfl⟩)))
   refine D_E rfl ?_
   have sz := e9.size
   have ls : w.heap.size < v5.heap.size := by omega
   have lr : w.heap.size < v7.heap.size := by omega
   refine AZ (cs := [.slice (some ⟨v5.heap.size, 0, none⟩) 2 2, .slice (some ⟨v7.heap.size, 0, none⟩) 3 3]) rfl rfl rfl (A5 rfl) (b0.keep e9 (by simp)) (by simp) (fun vz pz => ?_)
   have bz : Blk vz w.heap.size 28 [.slice (some ⟨v5.heap.size, 0, none⟩) 2 2, .slice (some ⟨v7.heap.size, 0, none⟩) 3 3] := pz.blk
   have kz : Keep [w.heap.size] wd vz := (e9.any).trans pz.keep (fun _ h _ => h)
   refine AJ ⟨Keep [w.heap.size] wd, fun _ e => e, kz, ?_⟩
   refine Ay ?_
   repeat refine nx rfl ?_
   refine A6 rfl rfl rfl bz.cells ⟨_, rfl, ?_, (n1.keep.trans k0).keep kz (by simp)⟩
   replace fF := (fF.keep pz.keep (fun b hb => by simpa using hb)).mono (ok' := A1) fun _ _ => trivial
   replace ft := (FAt.any (ok' := fun b => b ≠ w.heap.size) (w' := vz) ft rfl).mono (ok' := A1) fun _ _ => trivial
   replace fq := (FAt.any (ok' := fun b => b ≠ w.heap.size) (w' := vz) fq rfl).mono (ok' := A1) fun _ _ => trivial
   refine ⟨_, _, rfl, ⟨_, _, [Cm ⟨[114], true, 2⟩, Cm ⟨[103], false, 3⟩], rfl, ?_, ?_⟩, ⟨_, _, [[AK [112], AK [111, 110, 101], .int .i64 2] ++ [f0, f1, f2, f3, f4], [AK [112], AK [116, 119, 111], .int .i64 1] ++ [t0, t1, t2, t3, t4], [AK [113], AK [111, 110, 101], .int .i64 2] ++ [q0, q1, q2, q3, q4]], rfl, ?_, ?_⟩⟩
   ·exact ⟨_, _, rfl, Nat.le_refl _, by simp, (fun h => by cases h), .inr ⟨_, _, rfl, trivial, (bs.keep pz.keep (by simp; omega)).cells⟩⟩
   ·exact (RsAt.one (R := sgnR) rfl).app (RsAt.one (R := sgnR) rfl)
   ·exact ⟨_, _, rfl, Nat.le_refl _, by simp, (fun h => by cases h), .inr ⟨_, _, rfl, trivial, (br.keep pz.keep (by simp; omega)).cells⟩⟩
   ·exact ((RsAt.one (R := reqR) (c := [AK [112], AK [111, 110, 101], .int .i64 2] ++ [f0, f1, f2, f3, f4]) ⟨_, rfl, rfl, fF⟩).app (RsAt.one (R := reqR) (c := [AK [112], AK [116, 119, 111], .int .i64 1] ++ [t0, t1, t2, t3, t4]) ⟨_, rfl, rfl, ft⟩)).app (RsAt.one (R := reqR) (c := [AK [113], AK [111, 110, 101], .int .i64 2] ++ [q0, q1, q2, q3, q4]) ⟨_, rfl, rfl, fq⟩)
  ·refine D_E rfl ?_
   refine AS (ris_ok v5 [103] 2) rfl ?_
   rintro vq v7 ⟨q7, fq⟩
   obtain ⟨q0, q1, q2, q3, q4, rfl, oq⟩ := FV.five fq
   have e7 := e5.trans q7
   have l7 := e7.size
   replace fF := fF.ext q7
   replace ft := ft.ext q7
   try replace bs := bs.keep q7 (by simp)
   refine AJ ⟨Keep [w.heap.size] wd, fun _ e => e, e7.any, ?_⟩
   ((apply D_R rfl rfl; (intro W hW; refine Af (by rfl) (by rfl) ?_; exact AJ ⟨rfl, rfl, rfl⟩)))
   refine D_A rfl ?_ ?_
   ·refine AW (out := Cm ⟨[114], true, 2⟩ ++ Cm ⟨[103], false, 3⟩) rfl (by omega) (by rw [madeSgn2]; rfl) (fun v2 m2 => ?_)
    have bs := m2.blk
    have e2 := e7.trans m2.keep
    have l2 := e2.size
    replace fF := fF.ext m2.keep
    try replace ft := ft.ext m2.keep
    try replace fq := fq.ext m2.keep
    try replace br := br.keep m2.keep (by simp)
    refine AJ ⟨Keep [w.heap.size] wd, fun _ e => e, e2.any, ?_⟩
    refine D_E rfl ?_
    refine AW (out := [AK [112], AK [111, 110, 101], .int .i64 2] ++ [f0, f1, f2, f3, f4] ++ ([AK [112], AK [116, 119, 111], .int .i64 1] ++ [t0, t1, t2, t3, t4]) ++ ([AK [113], AK [111, 110, 101], .int .i64 2] ++ [q0, q1, q2, q3, q4])) rfl (by omega) (by rw [madeReq3]; rfl) (fun v9 m9 => ?_)
    have br := m9.blk
    have e9 := e2.trans m9.keep
    have l9 := e9.size
    replace fF := fF.ext m9.keep
    replace ft := ft.ext m9.keep
    replace fq := fq.ext m9.keep
    try replace bs := bs.keep m9.keep (by simp)
    refine AJ ⟨Keep [w.heap.size] wd, fun _ e => e, e9.any, ?_⟩
    ((apply D_R rfl rfl; (intro W hW; refine Af (by rfl) (by rfl) ?_; exact AJ ⟨rfl, rfl, rfl⟩)))
    refine D_E rfl ?_
    have sz := e9.size
    have ls : w.heap.size < v7.heap.size := by omega
    have lr : w.heap.size < v2.heap.size := by omega
    refine AZ (cs := [.slice (some ⟨v7.heap.size, 0, none⟩) 2 2, .slice (some ⟨v2.heap.size, 0, none⟩) 3 3]) rfl rfl rfl (A5 rfl) (b0.keep e9 (by simp)) (by simp) (fun vz pz => ?_)
    have bz : Blk vz w.heap.size 28 [.slice (some ⟨v7.heap.size, 0, none⟩) 2 2, .slice (some ⟨v2.heap.size, 0, none⟩) 3 3] := pz.blk
    have kz : Keep [w.heap.size] wd vz := (e9.any).trans pz.keep (fun _ h _ => h)
    refine AJ ⟨Keep [w.heap.size] wd, fun _ e => e, kz, ?_⟩
    refine Ay ?_
    repeat refine nx rfl ?_
    refine A6 rfl rfl rfl bz.cells ⟨_, rfl, ?_, (n1.keep.trans k0).keep kz (by simp)⟩
    replace fF := (fF.keep pz.keep (fun b hb => by simpa using hb)).mono (ok' := A1) fun _ _ => trivial
    replace ft := (FAt.any (ok' := fun b => b ≠ w.heap.size) (w' := vz) ft rfl).mono (ok' := A1) fun _ _ => trivial
    replace fq := (FAt.any (ok' := fun b => b ≠ w.heap.size) (w' := vz) fq rfl).mono (ok' := A1) fun _ _ => trivial
    refine ⟨_, _, rfl, ⟨_, _, [Cm ⟨[114], true, 2⟩, Cm ⟨[103], false, 3⟩], rfl, ?_, ?_⟩, ⟨_, _, [[AK [112], AK [111, 110, 101], .int .i64 2] ++ [f0, f1, f2, f3, f4], [AK [112], AK [116, 119, 111], .int .i64 1] ++ [t0, t1, t2, t3, t4], [AK [113], AK [111, 110, 101], .int .i64 2] ++ [q0, q1, q2, q3, q4]], rfl, ?_, ?_⟩⟩
    ·exact ⟨_, _, rfl, Nat.le_refl _, by simp, (fun h => by cases h), .inr ⟨_, _, rfl, trivial, (bs.keep pz.keep (by simp; omega)).cells⟩⟩
    ·exact (RsAt.one (R := sgnR) rfl).app (RsAt.one (R := sgnR) rfl)
    ·exact ⟨_, _, rfl, Nat.le_refl _, by simp, (fun h => by cases h), .inr ⟨_, _, rfl, trivial, (br.keep pz.keep (by simp; omega)).cells⟩⟩
    ·exact ((RsAt.one (R := reqR) (c := [AK [112], AK [111, 110, 101], .int .i64 2] ++ [f0, f1, f2, f3, f4]) ⟨_, rfl, rfl, fF⟩).app (RsAt.one (R := reqR) (c := [AK [112], AK [116, 119, 111], .int .i64 1] ++ [t0, t1, t2, t3, t4]) ⟨_, rfl, rfl, ft⟩)).app (RsAt.one (R := reqR) (c := [AK [113], AK [111, 110, 101], .int .i64 2] ++ [q0, q1, q2, q3, q4]) ⟨_, rfl, rfl, fq⟩)
   ·refine D_E rfl ?_
    refine AW (out := [AK [112], AK [111, 110, 101], .int .i64 2] ++ [f0, f1, f2, f3, f4] ++ ([AK [112], AK [116, 119, 111], .int .i64 1] ++ [t0, t1, t2, t3, t4]) ++ ([AK [113], AK [111, 110, 101], .int .i64 2] ++ [q0, q1, q2, q3, q4])) rfl (by omega) (by rw [madeReq3]; rfl) (fun v9 m9 => ?_)
    have br := m9.blk
    have e9 := e7.trans m9.keep
    have l9 := e9.size
    replace fF := fF.ext m9.keep
    replace ft := ft.ext m9.keep
    replace fq := fq.ext m9.keep
    try replace bs := bs.keep m9.keep (by simp)
    refine AJ ⟨Keep [w.heap.size] wd, fun _ e => e, e9.any, ?_⟩
    refine D_E rfl ?_
    refine AW (out := Cm ⟨[114], true, 2⟩ ++ Cm ⟨[103], false, 3⟩) rfl (by omega) (by rw [madeSgn2]; rfl) (fun v2 m2 => ?_)
    have bs := m2.blk
    have e2 := e9.trans m2.keep
    have l2 := e2.size
    replace fF := fF.ext m2.keep
    try replace ft := ft.ext m2.keep
    try replace fq := fq.ext m2.keep
    try replace br := br.keep m2.keep (by simp)
    refine AJ ⟨Keep [w.heap.size] wd, fun _ e => e, e2.any, ?_⟩
    ((apply D_R rfl rfl; (intro W hW; refine Af (by rfl) (by rfl) ?_; exact AJ ⟨rfl, rfl, rfl⟩)))
    refine D_E rfl ?_
    have sz := e2.size
    have ls : w.heap.size < v9.heap.size := by omega
    have lr : w.heap.size < v7.heap.size := by omega
    refine AZ (cs := [.slice (some ⟨v9.heap.size, 0, none⟩) 2 2, .slice (some ⟨v7.heap.size, 0, none⟩) 3 3]) rfl rfl rfl (A5 rfl) (b0.keep e2 (by simp)) (by simp) (fun vz pz => ?_)
    have bz : Blk vz w.heap.size 28 [.slice (some ⟨v9.heap.size, 0, none⟩) 2 2, .slice (some ⟨v7.heap.size, 0, none⟩) 3 3] := pz.blk
    have kz : Keep [w.heap.size] wd vz := (e2.any).trans pz.keep (fun _ h _ => h)
    refine AJ ⟨Keep [w.heap.size] wd, fun _ e => e, kz, ?_⟩
    refine Ay ?_
    repeat refine nx rfl ?_
    refine A6 rfl rfl rfl bz.cells ⟨_, rfl, ?_, (n1.keep.trans k0).keep kz (by simp)⟩
    replace fF := (fF.keep pz.keep (fun b hb => by simpa using hb)).mono (ok' := A1) fun _ _ => trivial
    replace ft := (FAt.any (ok' := fun b => b ≠ w.heap.size) (w' := vz) ft rfl).mono (ok' := A1) fun _ _ => trivial
    replace fq := (FAt.any (ok' := fun b => b ≠ w.heap.size) (w' := vz) fq rfl).mono (ok' := A1) fun _ _ => trivial
    refine ⟨_, _, rfl, ⟨_, _, [Cm ⟨[114], true, 2⟩, Cm ⟨[103], false, 3⟩], rfl, ?_, ?_⟩, ⟨_, _, [[AK [112], AK [111, 110, 101], .int .i64 2] ++ [f0, f1, f2, f3, f4], [AK [112], AK [116, 119, 111], .int .i64 1] ++ [t0, t1, t2, t3, t4], [AK [113], AK [111, 110, 101], .int .i64 2] ++ [q0, q1, q2, q3, q4]], rfl, ?_, ?_⟩⟩
    ·exact ⟨_, _, rfl, Nat.le_refl _, by simp, (fun h => by cases h), .inr ⟨_, _, rfl, trivial, (bs.keep pz.keep (by simp; omega)).cells⟩⟩
    ·exact (RsAt.one (R := sgnR) rfl).app (RsAt.one (R := sgnR) rfl)
    ·exact ⟨_, _, rfl, Nat.le_refl _, by simp, (fun h => by cases h), .inr ⟨_, _, rfl, trivial, (br.keep pz.keep (by simp; omega)).cells⟩⟩
    ·exact ((RsAt.one (R := reqR) (c := [AK [112], AK [111, 110, 101], .int .i64 2] ++ [f0, f1, f2, f3, f4]) ⟨_, rfl, rfl, fF⟩).app (RsAt.one (R := reqR) (c := [AK [112], AK [116, 119, 111], .int .i64 1] ++ [t0, t1, t2, t3, t4]) ⟨_, rfl, rfl, ft⟩)).app (RsAt.one (R := reqR) (c := [AK [113], AK [111, 110, 101], .int .i64 2] ++ [q0, q1, q2, q3, q4]) ⟨_, rfl, rfl, fq⟩)
end Go.Proofs.YtfcgdbmoncnibaaGreatDoor
namespace Go.Proofs.YtfcgdbmoncnibaaGreatDoor
set_option linter.unusedVariables false
variable {mk : Prop} [MK mk]
theorem G.bind_assoc {α β γ : Type} (p : G α) (u : α → G β) (q : β → G γ) : (p.bind u).bind q = p.bind fun a => (u a).bind q := by
 induction p with
 | ret a => rfl
 | fail => rfl
 | look k ih => simp only [G.bind]; congr 1; funext o; exact ih o
 | next g ih => simp only [G.bind]; rw [ih]
 | call nt k ih => simp only [G.bind]; congr 1; funext v; exact ih v
theorem CG {S : NT → Prop} {x : BT} {α : Type} {s : List UInt8} {q : Bool → G α} (hx : Ax s (some x) = false) (ht : Dj S x false (q true)) (hf : ∀ b, Dj S x b (q false)) (b : Bool) : Dj S x b ((BX s).bind q) := by
 refine ⟨fun y => ?_, .inr (.inr ⟨?_, ?_⟩)⟩
 ·show Dj S x true (G.bind (if Ax s (some y) = true then .next (.ret true) else .ret false) q)
  split
  ·exact ⟨rfl, ht⟩
  ·exact hf true
 ·show G.bind (if Ax s none = true then .next (.ret true) else .ret false) q = G.bind (if Ax s (some x) = true then .next (.ret true) else .ret false) q
  rw [hx]; rfl
 ·exact hf false
theorem good_expect {S : NT → Prop} {x : BT} {α : Type} {s : List UInt8} {q : Unit → G α} (h : Dj S x false (q ())) (b : Bool) : Dj S x b ((B5 s).bind q) := by
 refine ⟨fun y => ?_, .inr (.inl rfl)⟩
 show Dj S x true (G.bind (if Ax s (some y) = true then .next (.ret ()) else .fail) q)
 split
 ·exact ⟨rfl, h⟩
 ·trivial
theorem good_name {S : NT → Prop} {x : BT} {α : Type} {q : List UInt8 → G α} (h : ∀ s, Dj S x false (q s)) (b : Bool) : Dj S x b (nameG.bind q) := by
 refine ⟨fun y => ?_, .inr (.inl rfl)⟩
 show Dj S x true (G.bind (if decide (y.1 = 1) && Ba y.2 then .next (.ret y.2) else .fail) q)
 split
 ·exact ⟨rfl, h _⟩
 ·trivial
theorem good_number {S : NT → Prop} {x : BT} {α : Type} {q : Int → G α} (h : ∀ n, Dj S x false (q n)) (b : Bool) : Dj S x b (numberG.bind q) := by
 refine ⟨fun y => ?_, .inr (.inl rfl)⟩
 show Dj S x true (G.bind (if decide (y.1 = 2) then .next (.ret (Dp y.2)) else .fail) q)
 split
 ·exact ⟨rfl, h _⟩
 ·trivial
theorem good_take {S : NT → Prop} {x : BT} {α : Type} {tab : List (List UInt8 × Opr)} {q : Option Opr → G α} (hx : tab.lookup x.2 = none) (h : ∀ p, Dj S x false (q (some p))) (hn : ∀ b, Dj S x b (q none)) (b : Bool) : Dj S x b ((takeG tab).bind q) := by
 refine ⟨fun y => ?_, .inr (.inr ⟨?_, hn false⟩)⟩
 ·show Dj S x true (G.bind (match tab.lookup y.2 with | some p => .next (.ret (some p)) | none => .ret none) q)
  cases tab.lookup y.2 with
  | none => exact hn true
  | some p => exact ⟨rfl, h p⟩
 ·show q none = G.bind (match tab.lookup x.2 with | some p => .next (.ret (some p)) | none => .ret none) q
  rw [hx]; rfl
theorem good_index {S : NT → Prop} {x : BT} {α : Type} {o : Opr} {q : Option Int → G α} (hx : Ax [91] (some x) = false) (h : ∀ n b, Dj S x b (q n)) (b : Bool) : Dj S x b ((DX o).bind q) := by
 unfold DX
 split
 ·exact h none b
 ·rw [G.bind_assoc]
  refine CG hx ?_ (fun b => h none b) b
  show Dj S x false ((numberG.bind fun n => (B5 [93]).bind fun _ => .ret (some n)).bind q)
  rw [G.bind_assoc]
  refine good_number (fun n => ?_) false
  rw [G.bind_assoc]
  exact good_expect (h _ _) false
theorem Bx {S : NT → Prop} {x : BT} {α : Type} {b : Bool} {nt : NT} {k : nt.T → G α} (hs : S nt) (h : ∀ v, Dj S x false (k v)) : Dj S x b (.call nt k) := And.intro hs h
theorem Bw {S : NT → Prop} {x : BT} {α : Type} {b : Bool} {a : α} : Dj S x b (.ret a) := trivial
def fmlS : NT → Prop
 | .formula => True
 | .orN => True
 | .orL => True
 | .andN => True
 | .andL => True
 | .untilN => True
 | .unary => True
 | .primary => True
 | _ => False
structure StopF (x : BT) : Prop where
 imp : Ax [45, 62] (some x) = false
 or : Ax [124] (some x) = false
 and : Ax [38] (some x) = false
 tru : Ax [116, 114, 117, 101] (some x) = false
 fls : Ax [102, 97, 108, 115, 101] (some x) = false
 opn : Ax [40] (some x) = false
 eq : Ax [61] (some x) = false
 ne : Ax [33, 61] (some x) = false
 br : Ax [91] (some x) = false
 pre : prefixT.lookup x.2 = none
 inf : infixT.lookup x.2 = none
theorem good_formula {S : NT → Prop} {x : BT} (hS : ∀ nt, fmlS nt → S nt) (h : StopF x) : ∀ nt, fmlS nt → Dj S x false (body nt)
 | .formula, _ => Bx (hS .orN trivial) fun a => by
  refine CG h.imp ?_ (fun _ => ?_) false
  ·exact Bx (hS .formula trivial) fun _ => Bw
  ·exact Bw
 | .orN, _ => Bx (hS .andN trivial) fun a => Bx (hS .orL trivial) fun _ => Bw
 | .orL, _ => by
  refine CG h.or ?_ (fun _ => ?_) false
  ·exact Bx (hS .andN trivial) fun a => Bx (hS .orL trivial) fun _ => Bw
  ·exact Bw
 | .andN, _ => Bx (hS .untilN trivial) fun a => Bx (hS .andL trivial) fun _ => Bw
 | .andL, _ => by
  refine CG h.and ?_ (fun _ => ?_) false
  ·exact Bx (hS .untilN trivial) fun a => Bx (hS .andL trivial) fun _ => Bw
  ·exact Bw
 | .untilN, _ => Bx (hS .unary trivial) fun a => by
  refine good_take h.inf (fun o => ?_) (fun _ => ?_) false
  ·refine good_index h.br (fun n b => ?_) false
   exact Bx (hS .untilN trivial) fun _ => Bw
  ·exact Bw
 | .unary, _ => by
  refine good_take h.pre (fun o => ?_) (fun _ => ?_) false
  ·refine good_index h.br (fun n b => ?_) false
   exact Bx (hS .unary trivial) fun _ => Bw
  ·exact Bx (hS .primary trivial) fun _ => Bw
 | .primary, _ => by
  refine CG h.tru ?_ (fun b => ?_) false
  ·exact Bw
  refine CG h.fls ?_ (fun b => ?_) b
  ·exact Bw
  refine CG h.opn ?_ (fun b => ?_) b
  ·refine Bx (hS .formula trivial) fun f => ?_
   refine good_expect ?_ false
   exact Bw
  refine good_name (fun s => ?_) b
  refine CG h.eq ?_ (fun b => ?_) false
  ·refine good_number (fun n => ?_) false
   exact Bw
  refine CG h.ne ?_ (fun _ => ?_) b
  ·refine good_number (fun n => ?_) false
   exact Bw
  ·exact Bw
theorem stop_close : StopF (3, [41]) := ⟨by decide, by decide, by decide, by decide, by decide, by decide, by decide, by decide, by decide, by decide, by decide⟩
theorem DN {β : Type} {s : List UInt8} {q : Bool → G β} {x : Tok} {l : List Tok} {r : Ans β} (h : Ax s (some (bare x)) = true) (h' : Run (q true) l r) : Run ((BX s).bind q) (x :: l) r := by
 have : Run (BX s) (x :: l) (.ok (true, l)) := Run.look (by
  show Run (if Ax s (some (bare x)) = true then .next (.ret true) else .ret false) _ _
  rw [if_pos h]; exact Run.next (Run.ret _ _))
 exact this.bind h'
theorem Ck {β : Type} {s : List UInt8} {q : Bool → G β} {l : List Tok} {r : Ans β} (h : Ax s (l.head?.map bare) = false) (h' : Run (q false) l r) : Run ((BX s).bind q) l r := by
 have : Run (BX s) l (.ok (false, l)) := Run.look (by
  show Run (if Ax s (l.head?.map bare) = true then .next (.ret true) else .ret false) _ _
  rw [h]; exact Run.ret _ _)
 exact this.bind h'
theorem CW {β : Type} {s : List UInt8} {q : Unit → G β} {x : Tok} {l : List Tok} {r : Ans β} (h : Ax s (some (bare x)) = true) (h' : Run (q ()) l r) : Run ((B5 s).bind q) (x :: l) r := by
 have : Run (B5 s) (x :: l) (.ok ((), l)) := Run.look (by
  show Run (if Ax s (some (bare x)) = true then .next (.ret ()) else .fail) _ _
  rw [if_pos h]; exact Run.next (Run.ret _ _))
 exact this.bind h'
theorem run_name {β : Type} {q : List UInt8 → G β} {x : Tok} {l : List Tok} {r : Ans β} (hk : x.kind = 1) (hn : Ba x.text = true) (h' : Run (q x.text) l r) : Run (nameG.bind q) (x :: l) r := by
 have : Run nameG (x :: l) (.ok (x.text, l)) := Run.look (by
  show Run (if decide (x.kind = 1) && Ba x.text then .next (.ret x.text) else .fail) _ _
  rw [if_pos (by simp [hk, hn])]; exact Run.next (Run.ret _ _))
 exact this.bind h'
theorem run_number {β : Type} {q : Int → G β} {x : Tok} {l : List Tok} {r : Ans β} (hk : x.kind = 2) (h' : Run (q (Dp x.text)) l r) : Run (numberG.bind q) (x :: l) r := by
 have : Run numberG (x :: l) (.ok (Dp x.text, l)) := Run.look (by
  show Run (if decide (x.kind = 2) then .next (.ret (Dp x.text)) else .fail) _ _
  rw [if_pos (by simp [hk])]; exact Run.next (Run.ret _ _))
 exact this.bind h'
theorem run_take {β : Type} {tab : List (List UInt8 × Opr)} {q : Option Opr → G β} {x : Tok} {l : List Tok} {o : Opr} {r : Ans β} (h : tab.lookup x.text = some o) (h' : Run (q (some o)) l r) : Run ((takeG tab).bind q) (x :: l) r := by
 have : Run (takeG tab) (x :: l) (.ok (some o, l)) := Run.look (by
  show Run (match tab.lookup x.text with | some p => .next (.ret (some p)) | none => .ret none) _ _
  rw [h]; exact Run.next (Run.ret _ _))
 exact this.bind h'
theorem run_take_no {β : Type} {tab : List (List UInt8 × Opr)} {q : Option Opr → G β} {l : List Tok} {r : Ans β} (h : ∀ x, l.head? = some x → tab.lookup x.text = none) (h' : Run (q none) l r) : Run ((takeG tab).bind q) l r := by
 have : Run (takeG tab) l (.ok (none, l)) := Run.look (by
  cases l with
  | nil => exact Run.ret _ _
  | cons x l =>
   show Run (match tab.lookup x.text with | some p => .next (.ret (some p)) | none => .ret none) _ _
   rw [h x rfl]; exact Run.ret _ _)
 exact this.bind h'
theorem paren {x y : Tok} {A : List Tok} {f : Fml} (r : List Tok) (hx : bare x = (3, [40])) (hy : bare y = (3, [41])) (h : RunN .formula A (.ok (f, []))) : RunN .unary (x :: (A ++ y :: r)) (.ok (f, r)) := by
 have h1 : RunN .formula (A ++ y :: r) (.ok (f, y :: r)) := RunN.stop (S := fmlS) (nt := .formula) (fun nt => good_formula (fun _ h => h) (by rw [hy]; exact stop_close) nt) trivial r h
 have hxt : x.text = [40] := congrArg Prod.snd hx
 have hp : RunN .primary (x :: (A ++ y :: r)) (.ok (f, r)) := by
  refine Ck (by show Ax _ (some (bare x)) = false; rw [hx]; decide) (Ck (by show Ax _ (some (bare x)) = false; rw [hx]; decide) (DN (by rw [hx]; decide) ?_))
  exact Run.call h1 (CW (by rw [hy]; decide) (Run.ret _ _))
 refine run_take_no (fun z hz => ?_) (Run.call hp (Run.ret _ _))
 cases hz
 rw [hxt]; decide
theorem up_until {l r : List Tok} {f : Fml} (h : RunN .unary l (.ok (f, r))) (hr : ∀ x, r.head? = some x → infixT.lookup x.text = none) : RunN .untilN l (.ok (f, r)) :=
 Run.call h (run_take_no hr (Run.ret _ _))
theorem up_and {l r : List Tok} {f : Fml} (h : RunN .untilN l (.ok (f, r))) (hr : Ax [38] (r.head?.map bare) = false) : RunN .andN l (.ok (f, r)) :=
 Run.call h (Run.call (show RunN .andL r (.ok ([], r)) from Ck hr (Run.ret _ _)) (Run.ret _ _))
theorem up_or {l r : List Tok} {f : Fml} (h : RunN .andN l (.ok (f, r))) (hr : Ax [124] (r.head?.map bare) = false) : RunN .orN l (.ok (f, r)) :=
 Run.call h (Run.call (show RunN .orL r (.ok ([], r)) from Ck hr (Run.ret _ _)) (Run.ret _ _))
theorem up_imp {l r : List Tok} {f : Fml} (h : RunN .orN l (.ok (f, r))) (hr : Ax [45, 62] (r.head?.map bare) = false) : RunN .formula l (.ok (f, r)) :=
 Run.call h (Ck hr (Run.ret _ _))
end Go.Proofs.YtfcgdbmoncnibaaGreatDoor
namespace Go.Proofs.YtfcgdbmoncnibaaGreatDoor
set_option linter.unusedVariables false
variable {mk : Prop} [MK mk]
inductive ReadL : List UInt8 → List BT → Prop
 | nil : ReadL [] []
 | gap {c : UInt8} {s : List UInt8} {bs : List BT} (h : c = 32 ∨ c = 10) (hr : ReadL s bs) : ReadL (c :: s) bs
 | tok {k : Int} {y s : List UInt8} {bs : List BT} (hy : 1 ≤ y.length) (hs : BR (y ++ s) 0 [] = .ok (y.length, [⟨k, y, 0⟩])) (hr : ReadL s bs) : ReadL (y ++ s) ((k, y) :: bs)
theorem gap_step1 {c : UInt8} (h : c = 32 ∨ c = 10) (s : List UInt8) (ts : List Tok) : BR (c :: s) 0 ts = .ok (1, ts) := by
 rcases h with rfl | rfl <;> rfl
theorem ReadL.det {s : List UInt8} {bs : List BT} (h : ReadL s bs) : ∀ {s' bs'}, ReadL s' bs' → s = s' → bs = bs' := by
 induction h with
 | nil =>
  intro s' bs' h' e
  cases h' with
  | nil => rfl
  | gap => cases e
  | tok hy => have := congrArg List.length e.symm; rw [List.length_append] at this; simp only [List.length_nil] at this; omega
 | gap hc hr ih =>
  intro s' bs' h' e
  cases h' with
  | nil => cases e
  | gap _ hr' => cases e; exact ih hr' rfl
  | tok hy hs =>
   rw [← e, gap_step1 hc] at hs
   simp at hs
 | tok hy hs hr ih =>
  intro s' bs' h' e
  cases h' with
  | nil => have := congrArg List.length e; rw [List.length_append] at this; simp only [List.length_nil] at this; omega
  | gap hc hr' =>
   rw [e, gap_step1 hc] at hs
   simp at hs
  | tok hy' hs' hr' =>
   rw [e, hs'] at hs
   simp only [Except.ok.injEq, Prod.mk.injEq, List.cons.injEq, Tok.mk.injEq, and_true] at hs
   obtain ⟨h1, rfl, rfl⟩ := hs
   rw [ih hr' (List.append_cancel_left e)]
theorem step_full {v u : List UInt8} {a1 : Nat} {x : Tok} {ts : List Tok} (h : BR u 0 [] = .ok (a1, [x])) (hc : ts.length = 2000) : BR (v ++ u) v.length ts = .error (2, v.length) := by
 unfold BR at h ⊢
 have hg := getD_sh v u 0
 simp only [Nat.add_zero] at hg
 rw [hg]
 split at h
 ·simp [blankM] at h
 ·simp [commM] at h
 ·rename_i hk
  unfold Dn at h ⊢
  have hw := DL (q := BF) v u 1
  split at h
  ·cases h
  ·rename_i hn
   rw [hw, if_neg (by simp only [Nat.zero_add] at hn; omega)]
   unfold Ci
   rw [if_pos hc]
 ·rename_i hk
  unfold Dg at h ⊢
  have hb := numBad_sh v u 0
  simp only [Nat.add_zero] at hb
  rw [hb]
  split at h
  ·cases h
  ·rename_i hn
   rw [if_neg hn]
   unfold Ci
   rw [if_pos hc]
 ·unfold symM at h ⊢
  have hd := drop_sh v u 0
  simp only [Nat.add_zero, List.drop_zero] at hd
  rw [hd]
  split at h
  ·rename_i y hy
   rw [List.drop_zero] at hy
   rw [hy]
   show Ci (v ++ u) v.length ts 3 _ = _
   unfold Ci
   rw [if_pos hc]
  ·cases h
 ·cases h
theorem ReadL.scan {s : List UInt8} {bs : List BT} (h : ReadL s bs) : ∀ (v : List UInt8) (ts : List Tok), ts.length ≤ 2000 →
  (∃ us, us.map bare = bs ∧ scanW (v ++ s) v.length ts = .ok ((v ++ s).length, ts ++ us)) ∨ ∃ p, scanW (v ++ s) v.length ts = .error (2, p) := by
 induction h with
 | nil =>
  intro v ts hc
  refine .inl ⟨[], rfl, ?_⟩
  rw [List.append_nil, List.append_nil]; exact scanW_end
 | @gap c s bs hc hr ih =>
  intro v ts hl
  rw [DC (by simp)]
  have h1 : BR (v ++ c :: s) v.length ts = .ok (v.length + 1, ts) := by
   have hg := getD_sh v (c :: s) 0
   simp only [Nat.add_zero] at hg
   unfold BR
   rw [hg]
   rcases hc with rfl | rfl <;> rfl
  rw [h1]
  have := ih (v ++ [c]) ts hl
  simp only [List.append_assoc, List.length_append, List.length_cons, List.length_nil, List.cons_append, List.nil_append] at this ⊢
  exact this
 | @tok k y s bs hy hs hr ih =>
  intro v ts hl
  rw [DC (by simp; omega)]
  by_cases hf : ts.length = 2000
  ·rw [step_full hs hf]
   exact .inr ⟨_, rfl⟩
  ·have h1 := step_sh (v := v) (ts := ts) (ts' := []) hs (by simp; omega)
   simp only [List.map_nil, List.append_nil, Nat.add_zero, List.map_cons] at h1
   rw [h1]
   have := ih (v ++ y) (ts ++ [shT v.length ⟨k, y, 0⟩]) (by simp; omega)
   simp only [List.append_assoc, List.length_append] at this ⊢
   rcases this with ⟨us, e, h2⟩ | ⟨p, h2⟩
   ·refine .inl ⟨shT v.length ⟨k, y, 0⟩ :: us, by rw [List.map_cons, e]; rfl, ?_⟩
    simpa using h2
   ·exact .inr ⟨p, h2⟩
theorem ReadL.lex {s : List UInt8} {bs : List BT} (h : ReadL s bs) : (∃ us, us.map bare = bs ∧ DE s = .ok us) ∨ ∃ p, DE s = .error (2, p) := by
 by_cases hl : s.length ≤ 6000
 ·rw [lexM_of hl]
  rcases h.scan [] [] (by simp) with ⟨us, e, h1⟩ | ⟨p, h1⟩
  ·simp only [List.nil_append, List.length_nil] at h1
   rw [h1]
   exact .inl ⟨us, e, rfl⟩
  ·simp only [List.nil_append, List.length_nil] at h1
   rw [h1]
   exact .inr ⟨p, rfl⟩
 ·unfold DE
  rw [if_pos (by omega)]
  exact .inr ⟨_, rfl⟩
def folB : Option UInt8 → Bool
 | none => true
 | some c => !(CJ c || Aq c || decide (c.toNat = 95))
theorem ReadL.sym {s : List UInt8} {bs : List BT} {y : List UInt8} (hy : 1 ≤ y.length) (hk : ∃ k, DJ (y.getD 0 0) = some (k + 4)) (hf : symsL.find? (Bt (y ++ s)) = some y) (h : ReadL s bs) : ReadL (y ++ s) ((3, y) :: bs) := by
 refine .tok hy ?_ h
 obtain ⟨k, hk⟩ := hk
 unfold BR
 have : (y ++ s).getD 0 0 = y.getD 0 0 := by
  cases y with
  | nil => simp at hy
  | cons c y => rfl
 rw [this, hk]
 show symM _ 0 [] = _
 unfold symM
 rw [List.drop_zero, hf]
 show Ci _ 0 [] 3 (0 + y.length) = _
 unfold Ci
 rw [if_neg (by simp), Nat.zero_add]
 simp
end Go.Proofs.YtfcgdbmoncnibaaGreatDoor
namespace Go.Proofs.YtfcgdbmoncnibaaGreatDoor
set_option linter.unusedVariables false
variable {mk : Prop} [MK mk]
structure Sty where
 sign : List UInt8
 level : Nat
 first : Nat
 next : Nat
 least : Nat
 most : Nat
 val : Nat
 bound : Nat
 usual : Nat
def many : Nat := 1099511627776
def styL : List (Int × Sty) := [
 (1, ⟨[116, 114, 117, 101], 5, 0, 0, 0, 0, 0, 0, 0⟩),
 (2, ⟨[102, 97, 108, 115, 101], 5, 0, 0, 0, 0, 0, 0, 0⟩),
 (3, ⟨[61], 5, 0, 0, 0, 0, 9999, 0, 1⟩),
 (4, ⟨[33], 4, 4, 0, 1, 1, 0, 0, 0⟩),
 (5, ⟨[32, 38, 32], 2, 3, 3, 2, many, 0, 0, 0⟩),
 (6, ⟨[32, 124, 32], 1, 2, 2, 2, many, 0, 0, 0⟩),
 (7, ⟨[32, 45, 62, 32], 0, 1, 0, 2, 2, 0, 0, 0⟩),
 (8, ⟨[88, 32], 4, 4, 0, 1, 1, 0, 0, 0⟩),
 (9, ⟨[32, 85, 32], 3, 4, 3, 2, 2, 0, 0, 0⟩),
 (10, ⟨[32, 82, 32], 3, 4, 3, 2, 2, 0, 0, 0⟩),
 (11, ⟨[70, 32], 4, 4, 0, 1, 1, 0, 0, 0⟩),
 (12, ⟨[71, 32], 4, 4, 0, 1, 1, 0, 0, 0⟩),
 (13, ⟨[70, 91], 4, 4, 0, 1, 1, 0, 9999, 0⟩),
 (14, ⟨[71, 91], 4, 4, 0, 1, 1, 0, 9999, 0⟩),
 (15, ⟨[89, 32], 4, 4, 0, 1, 1, 1, 0, 0⟩),
 (16, ⟨[32, 83], 3, 4, 3, 2, 2, 9999, 0, 0⟩),
 (17, ⟨[32, 84], 3, 4, 3, 2, 2, 9999, 0, 1⟩),
 (18, ⟨[79, 32], 4, 4, 0, 1, 1, 0, 0, 0⟩),
 (19, ⟨[72, 32], 4, 4, 0, 1, 1, 0, 0, 0⟩)]
def Be (op : Int) : Option Sty := styL.lookup op
def Bo (op : Int) : Sty := (Be op).getD ⟨[], 4, 0, 0, 0, 0, 0, 0, 0⟩
def digs (n : Nat) : List UInt8 := if n < 10 then [UInt8.ofNat (48 + n)] else digs (n / 10) ++ [UInt8.ofNat (48 + n % 10)]
def CL (n : Int) : List UInt8 := digs n.toNat
def sgT (op : Int) (nm : List UInt8) (v b : Int) : List UInt8 :=
 if op = 3 then (if v = 1 then nm else nm ++ [61] ++ CL v)
 else if op = 13 ∨ op = 14 then (Bo op).sign ++ CL b ++ [93, 32]
 else if op = 15 then (if v = 0 then [89, 32] else [90, 32])
 else if op = 16 ∨ op = 17 then (if v = ((Bo op).usual : Int) then (Bo op).sign ++ [32] else (Bo op).sign ++ [91] ++ CL v ++ [93, 32])
 else (Bo op).sign
def wrapT (b : Bool) (s : List UInt8) : List UInt8 := if b then [40] ++ (s ++ [41]) else s
mutual
def prF : Nat → Fml → List UInt8
 | n, .mk op nm v b args => wrapT (decide ((Bo op).level < n)) (prA (Bo op).first (Bo op).next (sgT op nm v b) args)
def prA : Nat → Nat → List UInt8 → List Fml → List UInt8
 | _, _, sg, [] => sg
 | first, next, sg, a :: l => (if l.isEmpty then sg else []) ++ (prF first a ++ prR next sg l)
def prR : Nat → List UInt8 → List Fml → List UInt8
 | _, _, [] => []
 | next, sg, a :: l => sg ++ (prF next a ++ prR next sg l)
end
def C6 (op : Int) (nm : List UInt8) (v b : Int) (n : Nat) : Bool := match Be op with
 | none => false
 | some s => decide (s.least ≤ n ∧ n ≤ s.most ∧ 0 ≤ v ∧ v ≤ (s.val : Int) ∧ 0 ≤ b ∧ b ≤ (s.bound : Int)) && (if op = 3 then Ba nm else nm.isEmpty)
mutual
def okF : Fml → Bool
 | .mk op nm v b args => C6 op nm v b args.length && okL args
def okL : List Fml → Bool
 | [] => true
 | a :: l => okF a && okL l
end
def sgK (op : Int) (nm : List UInt8) (v b : Int) : List BT :=
 if op = 1 then [(1, [116, 114, 117, 101])] else if op = 2 then [(1, [102, 97, 108, 115, 101])]
 else if op = 3 then (1, nm) :: (if v = 1 then [] else [(3, [61]), (2, CL v)])
 else if op = 4 then [(3, [33])] else if op = 5 then [(3, [38])] else if op = 6 then [(3, [124])] else if op = 7 then [(3, [45, 62])]
 else if op = 8 then [(1, [88])] else if op = 9 then [(1, [85])] else if op = 10 then [(1, [82])] else if op = 11 then [(1, [70])] else if op = 12 then [(1, [71])]
 else if op = 13 then [(1, [70]), (3, [91]), (2, CL b), (3, [93])] else if op = 14 then [(1, [71]), (3, [91]), (2, CL b), (3, [93])]
 else if op = 15 then (if v = 0 then [(1, [89])] else [(1, [90])])
 else if op = 16 then (1, [83]) :: (if v = 0 then [] else [(3, [91]), (2, CL v), (3, [93])])
 else if op = 17 then (1, [84]) :: (if v = 1 then [] else [(3, [91]), (2, CL v), (3, [93])])
 else if op = 18 then [(1, [79])] else [(1, [72])]
def wrapK (b : Bool) (s : List BT) : List BT := if b then (3, [40]) :: (s ++ [(3, [41])]) else s
mutual
def tkF : Nat → Fml → List BT
 | n, .mk op nm v b args => wrapK (decide ((Bo op).level < n)) (tkA (Bo op).first (Bo op).next (sgK op nm v b) args)
def tkA : Nat → Nat → List BT → List Fml → List BT
 | _, _, sg, [] => sg
 | first, next, sg, a :: l => (if l.isEmpty then sg else []) ++ (tkF first a ++ tkR next sg l)
def tkR : Nat → List BT → List Fml → List BT
 | _, _, [] => []
 | next, sg, a :: l => sg ++ (tkF next a ++ tkR next sg l)
end
theorem CC {n : Nat} (h : n < 10) : digs n = [UInt8.ofNat (48 + n)] := by rw [digs, if_pos h]
theorem digs_big {n : Nat} (h : 10 ≤ n) : digs n = digs (n / 10) ++ [UInt8.ofNat (48 + n % 10)] := by rw [digs, if_neg (by omega)]
theorem dig_byte {k : Nat} (h : k < 10) : (UInt8.ofNat (48 + k)).toNat = 48 + k := by simp; omega
theorem digs_dig : ∀ (m n : Nat), n ≤ m → ∀ c ∈ digs n, Aq c = true
 | 0, n, h, c, hc => by
  rw [CC (by omega)] at hc
  simp only [List.mem_singleton] at hc
  subst hc
  simp only [Aq, dig_byte (show n < 10 by omega)]
  simp; omega
 | m + 1, n, h, c, hc => by
  by_cases h1 : n < 10
  ·rw [CC h1] at hc
   simp only [List.mem_singleton] at hc
   subst hc
   simp only [Aq, dig_byte h1]
   simp; omega
  ·rw [digs_big (by omega)] at hc
   rcases List.mem_append.1 hc with hc | hc
   ·exact digs_dig m (n / 10) (by omega) c hc
   ·simp only [List.mem_singleton] at hc
    subst hc
    simp only [Aq, dig_byte (show n % 10 < 10 by omega)]
    simp; omega
theorem digs_pos (n : Nat) : 1 ≤ (digs n).length := by
 rw [digs]; split <;> simp
theorem digs_len {n : Nat} (h : n ≤ 9999) : (digs n).length ≤ 4 := by
 by_cases h1 : n < 10
 ·rw [CC h1]; simp
 rw [digs_big (by omega)]
 by_cases h2 : n / 10 < 10
 ·rw [CC h2]; simp
 rw [digs_big (by omega)]
 by_cases h3 : n / 10 / 10 < 10
 ·rw [CC h3]; simp
 rw [digs_big (by omega)]
 rw [CC (by omega)]; simp
theorem getD_left {a b : List UInt8} {i : Nat} (h : i < a.length) : (a ++ b).getD i 0 = a.getD i 0 := by
 simp [List.getD_eq_getElem?_getD, List.getElem?_append_left h]
theorem digs_head : ∀ (m n : Nat), n ≤ m → 10 ≤ n → ((digs n).getD 0 0).toNat ≠ 48
 | 0, n, h, h1 => by omega
 | m + 1, n, h, h1 => by
  rw [digs_big h1]
  by_cases h2 : n / 10 < 10
  ·rw [CC h2]
   show (UInt8.ofNat (48 + n / 10)).toNat ≠ 48
   rw [dig_byte h2]; omega
  ·have hp := digs_pos (n / 10)
   have := digs_head m (n / 10) (by omega) (by omega)
   rw [getD_left (by omega)]
   exact this
theorem numOf_digs : ∀ (m n : Nat), n ≤ m → Dp (digs n) = (n : Int)
 | 0, n, h => by
  rw [CC (by omega)]
  show 10 * (0 : Int) + (((UInt8.ofNat (48 + n)).toNat : Int) - 48) = _
  rw [dig_byte (by omega)]; omega
 | m + 1, n, h => by
  by_cases h1 : n < 10
  ·rw [CC h1]
   show 10 * (0 : Int) + (((UInt8.ofNat (48 + n)).toNat : Int) - 48) = _
   rw [dig_byte h1]; omega
  ·rw [digs_big (by omega)]
   have ih := numOf_digs m (n / 10) (by omega)
   unfold Dp at ih ⊢
   rw [List.foldl_append, ih]
   show 10 * ((n / 10 : Nat) : Int) + (((UInt8.ofNat (48 + n % 10)).toNat : Int) - 48) = _
   rw [dig_byte (by omega)]; omega
theorem numOf_numT {n : Int} (h : 0 ≤ n) : Dp (CL n) = n := by
 unfold CL; rw [numOf_digs _ _ (Nat.le_refl _)]; omega
end Go.Proofs.YtfcgdbmoncnibaaGreatDoor
namespace Go.Proofs.YtfcgdbmoncnibaaGreatDoor
set_option linter.unusedVariables false
variable {mk : Prop} [MK mk]
theorem lookup_key {β : Type} {a : Int} {b : β} : ∀ {l : List (Int × β)}, l.lookup a = some b → a ∈ l.map (·.1)
 | [], h => by cases h
 | (k, v) :: l, h => by
  rw [List.lookup_cons] at h
  by_cases hk : a = k
  ·simp [hk]
  ·rw [show (a == k) = false by simpa using hk] at h
   have := lookup_key (l := l) h
   simp only [List.map_cons, List.mem_cons]
   exact .inr this
theorem op_cases {op : Int} {s : Sty} (h : Be op = some s) : op = 1 ∨ op = 2 ∨ op = 3 ∨ op = 4 ∨ op = 5 ∨ op = 6 ∨ op = 7 ∨ op = 8 ∨ op = 9 ∨ op = 10 ∨ op = 11 ∨ op = 12 ∨ op = 13 ∨ op = 14 ∨ op = 15 ∨ op = 16 ∨ op = 17 ∨ op = 18 ∨ op = 19 := by
 have := lookup_key h
 simpa [styL] using this
theorem node_parts {op v b : Int} {nm : List UInt8} {n : Nat} (h : C6 op nm v b n = true) : ∃ s, Be op = some s ∧ s.least ≤ n ∧ n ≤ s.most ∧ 0 ≤ v ∧ v ≤ (s.val : Int) ∧ 0 ≤ b ∧ b ≤ (s.bound : Int) ∧ (op = 3 → Ba nm = true) ∧ (op ≠ 3 → nm = []) := by
 unfold C6 at h
 cases hs : Be op with
 | none => rw [hs] at h; cases h
 | some s =>
  rw [hs] at h
  simp only [Bool.and_eq_true, decide_eq_true_eq] at h
  obtain ⟨⟨h1, h2, h3, h4, h5, h6⟩, h7⟩ := h
  refine ⟨s, rfl, h1, h2, h3, h4, h5, h6, fun e => ?_, fun e => ?_⟩
  ·rw [if_pos e] at h7; exact h7
  ·rw [if_neg e] at h7; simpa using h7
theorem kind_low : ∀ c : UInt8, A9 c = true → DJ c = some 2 := by
 intro c h
 have : c.toNat ∈ (List.range 26).map (· + 97) := by simp [A9] at h; simp; exact ⟨c.toNat - 97, by omega, by omega⟩
 have e : c = UInt8.ofNat c.toNat := by simp
 rw [e]
 revert this
 generalize c.toNat = n
 intro hn
 simp only [List.range, List.range.loop, List.map_cons, List.map_nil, List.mem_cons, List.not_mem_nil, or_false] at hn
 rcases hn with rfl | rfl | rfl | rfl | rfl | rfl | rfl | rfl | rfl | rfl | rfl | rfl | rfl | rfl | rfl | rfl | rfl | rfl | rfl | rfl | rfl | rfl | rfl | rfl | rfl | rfl <;> rfl
theorem kind_dig : ∀ c : UInt8, Aq c = true → DJ c = some 3 := by
 intro c h
 have : c.toNat ∈ (List.range 10).map (· + 48) := by simp [Aq] at h; simp; exact ⟨c.toNat - 48, by omega, by omega⟩
 have e : c = UInt8.ofNat c.toNat := by simp
 rw [e]
 revert this
 generalize c.toNat = n
 intro hn
 simp only [List.range, List.range.loop, List.map_cons, List.map_nil, List.mem_cons, List.not_mem_nil, or_false] at hn
 rcases hn with rfl | rfl | rfl | rfl | rfl | rfl | rfl | rfl | rfl | rfl <;> rfl
theorem takeW_app {p : UInt8 → Bool} {u : List UInt8} (hu : ∀ c, u.head? = some c → p c = false) : ∀ s : List UInt8, s.all p = true → (s ++ u).takeWhile p = s
 | [], _ => by
  cases u with
  | nil => rfl
  | cons c u => simp [hu c rfl]
 | c :: s, h => by
  simp only [List.all_cons, Bool.and_eq_true] at h
  rw [List.cons_append, List.takeWhile_cons, if_pos h.1, takeW_app hu s h.2]
theorem fol_name {u : List UInt8} (h : folB u.head? = true) : ∀ c, u.head? = some c → BF c = false := by
 intro c hc
 rw [hc] at h
 simp only [folB, CJ, BF, Bool.not_eq_true', Bool.or_eq_false_iff] at h ⊢
 exact ⟨⟨h.1.1.1, h.1.2⟩, h.2⟩
theorem fol_dig {u : List UInt8} (h : folB u.head? = true) : ∀ c, u.head? = some c → Aq c = false ∧ CJ c = false ∧ c.toNat ≠ 95 := by
 intro c hc
 rw [hc] at h
 simp only [folB, Bool.not_eq_true', Bool.or_eq_false_iff, decide_eq_false_iff_not] at h
 exact ⟨h.1.2, h.1.1, h.2⟩
theorem BW {nm : List UInt8} (hn : Ba nm = true) : 1 ≤ nm.length ∧ nm.length ≤ 12 ∧ A9 (nm.getD 0 0) = true ∧ nm.all BF = true ∧ nm ∉ keysL := by
 simp only [Ba, Bool.and_eq_true, decide_eq_true_eq, Bool.not_eq_true', decide_eq_false_iff_not] at hn
 exact ⟨hn.1.1.1.1, hn.1.1.1.2, hn.1.1.2, hn.1.2, hn.2⟩
theorem word_step {nm u : List UInt8} (h1 : 1 ≤ nm.length) (h2 : nm.length ≤ 12) (h3 : A9 (nm.getD 0 0) = true) (h4 : nm.all BF = true) (hu : folB u.head? = true) : BR (nm ++ u) 0 [] = .ok (nm.length, [⟨1, nm, 0⟩]) := by
 cases nm with
 | nil => simp at h1
 | cons c s =>
  have h4 : s.all BF = true := by
   simp only [List.all_cons, Bool.and_eq_true] at h4
   exact h4.2
  have e : Ak BF (c :: s ++ u) (0 + 1) = s.length + 1 := by
   show 0 + 1 + ((s ++ u).takeWhile BF).length = _
   rw [takeW_app (fol_name hu) s h4]; omega
  unfold BR
  rw [show (c :: s ++ u).getD 0 0 = c from rfl, kind_low c h3]
  show Dn _ 0 [] = _
  unfold Dn
  simp only [List.length_cons] at h2
  rw [e, if_neg (by omega)]
  unfold Ci
  rw [if_neg (by simp)]
  simp
theorem num_step {n : Nat} {u : List UInt8} (hn : n ≤ 9999) (hu : folB u.head? = true) : BR (digs n ++ u) 0 [] = .ok ((digs n).length, [⟨2, digs n, 0⟩]) := by
 have hp := digs_pos n
 have hl := digs_len hn
 have hd := digs_dig n n (Nat.le_refl _)
 have hall : (digs n).all Aq = true := List.all_eq_true.2 hd
 have hg : (digs n ++ u).getD 0 0 = (digs n).getD 0 0 := getD_left (by omega)
 have h0 : Aq ((digs n).getD 0 0) = true := by
  rw [List.getD_eq_getElem?_getD, List.getElem?_eq_getElem (by omega)]
  exact hd _ (List.getElem_mem _)
 have e : Ak Aq (digs n ++ u) 0 = (digs n).length := by
  show 0 + ((digs n ++ u).takeWhile Aq).length = _
  rw [takeW_app (fun c hc => (fol_dig hu c hc).1) _ hall]; omega
 have hb : BM (digs n ++ u) 0 = false := by
  unfold BM
  rw [e, hg]
  simp only [Bool.or_eq_false_iff, Bool.and_eq_false_iff, decide_eq_false_iff_not]
  refine ⟨⟨by omega, ?_⟩, ?_⟩
  ·by_cases h10 : n < 10
   ·left; rw [CC h10]; simp
   ·right; exact digs_head n n (Nat.le_refl _) (by omega)
  ·cases u with
   | nil => left; simp
   | cons c u =>
    right
    have hc : (digs n ++ c :: u).getD (digs n).length 0 = c := by simp [List.getD_eq_getElem?_getD]
    rw [hc]
    obtain ⟨_, h1, h2⟩ := fol_dig hu c rfl
    exact ⟨h1, h2⟩
 unfold BR
 rw [hg, kind_dig _ h0]
 show Dg _ 0 [] = _
 unfold Dg
 rw [hb, e]
 show Ci _ 0 [] 2 _ = _
 unfold Ci
 rw [if_neg (by simp)]
 simp
theorem ReadL.name {nm s : List UInt8} {bs : List BT} (hn : Ba nm = true) (h : ReadL s bs) (hs : folB s.head? = true) : ReadL (nm ++ s) ((1, nm) :: bs) := by
 obtain ⟨h1, h2, h3, h4, _⟩ := BW hn
 exact .tok h1 (word_step h1 h2 h3 h4 hs) h
theorem ReadL.num {n : Int} {s : List UInt8} {bs : List BT} (hn : n ≤ 9999) (h : ReadL s bs) (hs : folB s.head? = true) : ReadL (CL n ++ s) ((2, CL n) :: bs) :=
 .tok (digs_pos _) (num_step (by omega) hs) h
theorem ReadL.one {c : UInt8} {s : List UInt8} {bs : List BT} (hc : c = 40 ∨ c = 41 ∨ c = 91 ∨ c = 93 ∨ c = 59 ∨ c = 58 ∨ c = 123 ∨ c = 125 ∨ c = 124 ∨ c = 38 ∨ c = 61) (h : ReadL s bs) : ReadL (c :: s) ((3, [c]) :: bs) := by
 refine ReadL.sym (y := [c]) (by simp) ?_ ?_ h
 ·rcases hc with rfl | rfl | rfl | rfl | rfl | rfl | rfl | rfl | rfl | rfl | rfl <;> exact ⟨0, rfl⟩
 ·rcases hc with rfl | rfl | rfl | rfl | rfl | rfl | rfl | rfl | rfl | rfl | rfl <;> simp [symsL, Bt]
theorem ReadL.imp {s : List UInt8} {bs : List BT} (h : ReadL s bs) : ReadL (45 :: 62 :: s) ((3, [45, 62]) :: bs) := ReadL.sym (y := [45, 62]) (by simp) ⟨0, rfl⟩ (by simp [symsL, Bt]) h
theorem ReadL.not {s : List UInt8} {bs : List BT} (h : ReadL s bs) (hs : s.head? ≠ some 61) : ReadL (33 :: s) ((3, [33]) :: bs) := by
 refine ReadL.sym (y := [33]) (by simp) ⟨0, rfl⟩ ?_ h
 cases s with
 | nil => simp [symsL, Bt]
 | cons c s =>
  have hc : c ≠ 61 := fun e => hs (by rw [e]; rfl)
  simp [symsL, Bt, hc]
theorem ReadL.big {c : UInt8} {d : UInt8} {s : List UInt8} {bs : List BT} (hc : c ∈ [88, 89, 90, 79, 72, 70, 71, 85, 82, 83, 84]) (hd : d = 32 ∨ d = 91) (h : ReadL (d :: s) bs) : ReadL (c :: d :: s) ((1, [c]) :: bs) := by
 refine .tok (y := [c]) (by simp) ?_ h
 simp only [List.mem_cons, List.not_mem_nil, or_false] at hc
 rcases hc with rfl | rfl | rfl | rfl | rfl | rfl | rfl | rfl | rfl | rfl | rfl <;> rcases hd with rfl | rfl <;> rfl
theorem ReadL.index {v : Int} {s : List UInt8} {bs : List BT} (hv : v ≤ 9999) (h : ReadL s bs) : ReadL (91 :: (CL v ++ 93 :: 32 :: s)) ((3, [91]) :: (2, CL v) :: (3, [93]) :: bs) :=
 ReadL.one (by simp) (ReadL.num hv (ReadL.one (by simp) (ReadL.gap (.inl rfl) h)) rfl)
def Fol (s : List UInt8) : Prop := folB s.head? = true ∧ s.head? ≠ some 61
theorem fol_blank (s : List UInt8) : Fol (32 :: s) := ⟨rfl, by simp⟩
theorem small_ne {nm s : List UInt8} (h1 : 1 ≤ nm.length) (h : A9 (nm.getD 0 0) = true) : (nm ++ s).head? ≠ some 61 := by
 cases nm with
 | nil => simp at h1
 | cons c nm =>
  intro e
  simp only [List.cons_append, List.head?_cons, Option.some.injEq] at e
  subst e
  exact absurd (show A9 61 = true from h) (by decide)
theorem sign_reads {op v b : Int} {nm : List UInt8} {n : Nat} (h : C6 op nm v b n = true) {s : List UInt8} {bs : List BT} (hr : ReadL s bs) (hs : n = 0 → folB s.head? = true) (he : s.head? ≠ some 61) :
  ReadL (sgT op nm v b ++ s) (sgK op nm v b ++ bs) ∧ (sgT op nm v b ++ s).head? ≠ some 61 ∧ (2 ≤ n → Fol (sgT op nm v b ++ s)) := by
 obtain ⟨st, hst, h1, h2, h3, h4, h5, h6, h7, h8⟩ := node_parts h
 have hb : ∀ {t : List UInt8} {c : List BT}, ReadL t c → ReadL (32 :: t) c := fun q => ReadL.gap (.inl rfl) q
 rcases op_cases hst with rfl | rfl | rfl | rfl | rfl | rfl | rfl | rfl | rfl | rfl | rfl | rfl | rfl | rfl | rfl | rfl | rfl | rfl | rfl <;> simp [Be, styL, List.lookup] at hst <;> subst hst <;> simp only at h1 h2 h4 h6
 ·have hs := hs (by omega)
  exact ⟨.tok (y := [116, 114, 117, 101]) (by simp) (word_step (by simp) (by simp) (by decide) (by decide) hs) hr, by simp [sgT, Bo, Be, styL, List.lookup], fun _ => by omega⟩
 ·have hs := hs (by omega)
  exact ⟨.tok (y := [102, 97, 108, 115, 101]) (by simp) (word_step (by simp) (by simp) (by decide) (by decide) hs) hr, by simp [sgT, Bo, Be, styL, List.lookup], fun _ => by omega⟩
 ·have hs := hs (by omega)
  have hn := h7 rfl
  obtain ⟨n1, _, n3, _⟩ := BW hn
  by_cases hv : v = 1
  ·refine ⟨?_, ?_, fun _ => by omega⟩
   ·simp only [sgT, sgK, if_pos hv]
    exact ReadL.name hn hr hs
   ·rw [show sgT 3 nm v b = nm by simp [sgT, hv]]
    exact small_ne n1 n3
  ·refine ⟨?_, ?_, fun _ => by omega⟩
   ·simp only [sgT, sgK, if_neg hv]
    have := ReadL.name hn (ReadL.one (c := 61) (by simp) (ReadL.num (n := v) (by omega) hr hs)) rfl
    simpa using this
   ·rw [show sgT 3 nm v b = nm ++ [61] ++ CL v by simp [sgT, hv], List.append_assoc, List.append_assoc]
    exact small_ne n1 n3
 ·exact ⟨ReadL.not hr he, by simp [sgT, Bo, Be, styL, List.lookup], fun _ => by omega⟩
 ·exact ⟨hb (ReadL.one (by simp) (hb hr)), by simp [sgT, Bo, Be, styL, List.lookup], fun _ => fol_blank _⟩
 ·exact ⟨hb (ReadL.one (by simp) (hb hr)), by simp [sgT, Bo, Be, styL, List.lookup], fun _ => fol_blank _⟩
 ·exact ⟨hb (ReadL.imp (hb hr)), by simp [sgT, Bo, Be, styL, List.lookup], fun _ => fol_blank _⟩
 ·exact ⟨ReadL.big (by simp) (.inl rfl) (hb hr), by simp [sgT, Bo, Be, styL, List.lookup], fun _ => by omega⟩
 ·exact ⟨hb (ReadL.big (by simp) (.inl rfl) (hb hr)), by simp [sgT, Bo, Be, styL, List.lookup], fun _ => fol_blank _⟩
 ·exact ⟨hb (ReadL.big (by simp) (.inl rfl) (hb hr)), by simp [sgT, Bo, Be, styL, List.lookup], fun _ => fol_blank _⟩
 ·exact ⟨ReadL.big (by simp) (.inl rfl) (hb hr), by simp [sgT, Bo, Be, styL, List.lookup], fun _ => by omega⟩
 ·exact ⟨ReadL.big (by simp) (.inl rfl) (hb hr), by simp [sgT, Bo, Be, styL, List.lookup], fun _ => by omega⟩
 ·refine ⟨?_, by simp [sgT, Bo, Be, styL, List.lookup], fun _ => by omega⟩
  have := ReadL.big (c := 70) (by simp) (.inr rfl) (ReadL.index (v := b) (by omega) hr)
  simpa [sgT, sgK, Bo, Be, styL, List.lookup] using this
 ·refine ⟨?_, by simp [sgT, Bo, Be, styL, List.lookup], fun _ => by omega⟩
  have := ReadL.big (c := 71) (by simp) (.inr rfl) (ReadL.index (v := b) (by omega) hr)
  simpa [sgT, sgK, Bo, Be, styL, List.lookup] using this
 ·by_cases hv : v = 0
  ·simp only [sgT, sgK, if_pos hv]
   exact ⟨ReadL.big (by simp) (.inl rfl) (hb hr), by simp, fun _ => by omega⟩
  ·simp only [sgT, sgK, if_neg hv]
   exact ⟨ReadL.big (by simp) (.inl rfl) (hb hr), by simp, fun _ => by omega⟩
 ·by_cases hv : v = 0
  ·subst hv
   exact ⟨hb (ReadL.big (c := 83) (by simp) (.inl rfl) (hb hr)), by simp [sgT, Bo, Be, styL, List.lookup], fun _ => fol_blank _⟩
  ·have := hb (ReadL.big (c := 83) (by simp) (.inr rfl) (ReadL.index (v := v) (by omega) hr))
   refine ⟨?_, by simp [sgT, Bo, Be, styL, List.lookup, hv], fun _ => ?_⟩
   ·simpa [sgT, sgK, Bo, Be, styL, List.lookup, hv] using this
   ·simp only [Fol, sgT, Bo, Be, styL, List.lookup]
    simp [hv, folB, CJ, A9, isUp, Aq]
 ·by_cases hv : v = 1
  ·subst hv
   exact ⟨hb (ReadL.big (c := 84) (by simp) (.inl rfl) (hb hr)), by simp [sgT, Bo, Be, styL, List.lookup], fun _ => fol_blank _⟩
  ·have := hb (ReadL.big (c := 84) (by simp) (.inr rfl) (ReadL.index (v := v) (by omega) hr))
   refine ⟨?_, by simp [sgT, Bo, Be, styL, List.lookup, hv], fun _ => ?_⟩
   ·simpa [sgT, sgK, Bo, Be, styL, List.lookup, hv] using this
   ·simp only [Fol, sgT, Bo, Be, styL, List.lookup]
    simp [hv, folB, CJ, A9, isUp, Aq]
 ·exact ⟨ReadL.big (by simp) (.inl rfl) (hb hr), by simp [sgT, Bo, Be, styL, List.lookup], fun _ => by omega⟩
 ·exact ⟨ReadL.big (by simp) (.inl rfl) (hb hr), by simp [sgT, Bo, Be, styL, List.lookup], fun _ => by omega⟩
def ReadsF (f : Fml) : Prop := ∀ (n : Nat) (s : List UInt8) (bs : List BT), ReadL s bs → Fol s → ReadL (prF n f ++ s) (tkF n f ++ bs) ∧ (prF n f ++ s).head? ≠ some 61
theorem B3 : ∀ {l : List Fml}, okL l = true → ∀ a ∈ l, okF a = true
 | [], _, a, h => by cases h
 | c :: l, h, a, ha => by
  simp only [okL, Bool.and_eq_true] at h
  rcases List.mem_cons.1 ha with rfl | ha
  ·exact h.1
  ·exact B3 h.2 a ha
theorem rest_readsF {op v b : Int} {nm : List UInt8} {k : Nat} (h : C6 op nm v b k = true) (hk : 2 ≤ k) (next : Nat) : ∀ (l : List Fml), (∀ a ∈ l, ReadsF a) → ∀ (s : List UInt8) (bs : List BT), ReadL s bs → Fol s → ReadL (prR next (sgT op nm v b) l ++ s) (tkR next (sgK op nm v b) l ++ bs) ∧ Fol (prR next (sgT op nm v b) l ++ s)
 | [], _, s, bs, hr, hs => ⟨hr, hs⟩
 | a :: l, hl, s, bs, hr, hs => by
  obtain ⟨r1, f1⟩ := rest_readsF h hk next l (fun c hc => hl c (by simp [hc])) s bs hr hs
  obtain ⟨r2, f2⟩ := hl a (by simp) next _ _ r1 f1
  obtain ⟨r3, _, f3⟩ := sign_reads h r2 (fun h0 => by omega) f2
  simp only [prR, tkR, List.append_assoc]
  exact ⟨r3, f3 hk⟩
theorem body_reads {op v b : Int} {nm : List UInt8} {args : List Fml} (h : C6 op nm v b args.length = true) (first next : Nat) (hl : ∀ a ∈ args, ReadsF a) {s : List UInt8} {bs : List BT} (hr : ReadL s bs) (hs : Fol s) :
  ReadL (prA first next (sgT op nm v b) args ++ s) (tkA first next (sgK op nm v b) args ++ bs) ∧ (prA first next (sgT op nm v b) args ++ s).head? ≠ some 61 := by
 match args, h, hl with
 | [], h, hl =>
  obtain ⟨r3, f3, _⟩ := sign_reads h hr (fun _ => hs.1) hs.2
  simp only [prA, tkA]
  exact ⟨r3, f3⟩
 | [a], h, hl =>
  obtain ⟨r2, f2⟩ := hl a (by simp) first _ _ hr hs
  obtain ⟨r3, f3, _⟩ := sign_reads h r2 (fun h0 => by simp at h0) f2
  simp only [prA, tkA, prR, tkR, List.isEmpty_nil, if_pos, List.append_assoc, List.append_nil, List.nil_append]
  exact ⟨r3, f3⟩
 | a :: c :: l, h, hl =>
  obtain ⟨r1, f1⟩ := rest_readsF h (by simp) next (c :: l) (fun d hd => hl d (by simp at hd; simp [hd])) s bs hr hs
  obtain ⟨r2, f2⟩ := hl a (by simp) first _ _ r1 f1
  have e : (c :: l).isEmpty = false := rfl
  simp only [prA, tkA, e, Bool.false_eq_true, if_false, List.append_assoc, List.nil_append]
  exact ⟨r2, f2⟩
theorem readsF : ∀ (m : Nat) (f : Fml), SizeOf.sizeOf f ≤ m → okF f = true → ReadsF f
 | 0, f, hm, _ => by cases f; simp at hm
 | m + 1, .mk op nm v b args, hm, hok => by
  simp only [okF, Bool.and_eq_true] at hok
  have hl : ∀ a ∈ args, ReadsF a := fun a ha => readsF m a (by have := List.sizeOf_lt_of_mem ha; simp at hm; omega) (B3 hok.2 a ha)
  intro n s bs hr hs
  simp only [prF, tkF]
  by_cases hlv : (Bo op).level < n
  ·rw [decide_eq_true hlv]
   obtain ⟨r1, _⟩ := body_reads hok.1 (Bo op).first (Bo op).next hl (ReadL.one (c := 41) (by simp) hr) ⟨rfl, by simp⟩
   have := ReadL.one (c := 40) (by simp) r1
   refine ⟨?_, by simp [wrapT]⟩
   simpa [wrapT, wrapK] using this
  ·rw [decide_eq_false hlv]
   exact body_reads hok.1 (Bo op).first (Bo op).next hl hr hs
end Go.Proofs.YtfcgdbmoncnibaaGreatDoor
namespace Go.Proofs.YtfcgdbmoncnibaaGreatDoor
open Go.RowKit
variable {mk : Prop} [MK mk]
open Go.ChangeMaps (setBlock)
attribute [local semireducible] WC AX B9 Bb B6 C2 Da Bu
variable {P : Program} {all : Array Oper} {Z : Fr → DS → List PanicEntry → World → Prop} {K : Fr → DS → World → Prop} {rest : List Oper} {f : Fr} {ds : DS} {w : World}
 {d : Nat} {ty : TypeId} {pos : String} {af : Array Edge}
class VMapT (P : Program) (T : TypeId) (z : outParam Value) : Prop where
 out : ∃ kt et i, P.underlying T = some (.map kt et) ∧ P.underlying kt = some (.int .i64) ∧ P.info? et = some i ∧ i.zero = some z
theorem vmapT_of {T kt et : TypeId} {z : Value} (h1 : P.underlying T = some (.map kt et)) (h2 : P.underlying kt = some (.int .i64)) (h3 : (P.info? et).map (·.zero) = some (some z)) : VMapT P T z := by
 obtain ⟨i, hi, hz⟩ := Option.map_eq_some_iff.1 h3
 exact ⟨kt, et, i, h1, h2, hi, hz⟩
def encV (p : Int × Value) : Value × Value := (.int .i64 p.1, p.2)
theorem intK_inj {a b : Int} (h : Value.int .i64 a = Value.int .i64 b) : a = b := by simpa using h
def rdV (e : MapEntry) : Value × Value := (e.key, e.val)
def VMap (w : World) (r : Nat) (L : List (Int × Value)) : Prop :=
 ∃ es clock, w.heap[r]? = some (.map es clock) ∧ MapKept.Stamped es clock ∧ es.toList.map rdV = L.map encV
theorem VMap.lt {r : Nat} {L : List (Int × Value)} (h : VMap w r L) : r < w.heap.size := by
 obtain ⟨es, c, h1, _⟩ := h; exact (Array.getElem?_eq_some_iff.1 h1).1
theorem VMap.keep {X : List Nat} {w' : World} {r : Nat} {L : List (Int × Value)} (h : VMap w r L) (k : Keep X w w') (hr : r ∉ X) : VMap w' r L := by
 obtain ⟨es, c, h1, h2, h3⟩ := id h
 exact ⟨es, c, (k.block r h.lt hr).trans h1, h2, h3⟩
theorem keys_vint {es : List MapEntry} {L : List (Int × Value)} (h : es.map rdV = L.map encV) : ∀ x ∈ es, MapKept.IsKey (.int .i64) x.key := by
 intro x hx
 have : rdV x ∈ L.map encV := by rw [← h]; exact List.mem_map.2 ⟨x, hx, rfl⟩
 obtain ⟨p, _, e⟩ := List.mem_map.1 this
 have : x.key = Value.int .i64 p.1 := (congrArg Prod.fst e).symm
 rw [this]; trivial
theorem vlookup_none {L : List (Int × Value)} {x : Int} (h : ∀ p ∈ L, p.1 ≠ x) : L.lookup x = none := by
 induction L with
 | nil => rfl
 | cons q L ih =>
  obtain ⟨a, b⟩ := q
  have ha : x ≠ a := fun e => h (a, b) (by simp) e.symm
  rw [List.lookup_cons, beq_false_of_ne ha]
  exact ih fun p hp => h p (by simp [hp])
theorem vlookup_at {L : List (Int × Value)} (hn : (L.map (·.1)).Nodup) {p : Int × Value} (hp : p ∈ L) : L.lookup p.1 = some p.2 := by
 induction L with
 | nil => cases hp
 | cons q L ih =>
  simp only [List.map_cons, List.nodup_cons] at hn
  obtain ⟨a, b⟩ := q
  rcases List.mem_cons.1 hp with rfl | hp
  ·simp [List.lookup]
  ·have : p.1 ≠ a := fun e => hn.1 (List.mem_map.2 ⟨p, hp, e⟩)
   rw [List.lookup_cons, beq_false_of_ne this]
   exact ih hn.2 hp
theorem nodup_vint {r : Nat} {L : List (Int × Value)} (h : VMap w r L) : (L.map (·.1)).Nodup := by
 obtain ⟨es, c, _, ⟨_, _, h2⟩, h3⟩ := h
 have e : es.toList.map (·.key) = L.map (fun p => Value.int .i64 p.1) := by
  have := congrArg (List.map Prod.fst) h3
  simpa [rdV, encV, List.map_map, Function.comp_def] using this
 rw [e] at h2
 have h4 : ((L.map (·.1)).map (fun x => Value.int .i64 x)).Nodup := by rw [List.map_map]; exact h2
 exact List.Pairwise.of_map _ (fun a b hab e => hab (by rw [e])) h4
theorem find_vint {kt : TypeId} {L : List (Int × Value)} (hk : P.underlying kt = some (.int .i64)) {es : Array MapEntry} (hm : es.toList.map rdV = L.map encV) (hn : (L.map (·.1)).Nodup) (x : Int) (w : World) :
  (L.lookup x = none ∧ (Instr.findKey kt (.int .i64 x) es.toList).run P w = .ok none w ∧ ∀ e ∈ es.toList, e.key ≠ Value.int .i64 x) ∨
  ∃ i v, L.lookup x = some v ∧ (Instr.findKey kt (.int .i64 x) es.toList).run P w = .ok (some (i, v)) w := by
 have hget : ∀ (i : Nat) (e : MapEntry), es.toList[i]? = some e → ∃ p, L[i]? = some p ∧ e.key = Value.int .i64 p.1 ∧ e.val = p.2 := by
  intro i e he
  have := congrArg (fun l => l[i]?) hm
  simp only [List.getElem?_map, he, Option.map_some] at this
  obtain ⟨p, hp, e2⟩ := Option.map_eq_some_iff.1 this.symm
  exact ⟨p, hp, (congrArg Prod.fst e2).symm, (congrArg Prod.snd e2).symm⟩
 rcases MapKept.findNow_spec (d := .int .i64) (k := .int .i64 x) rfl es.toList 0 (keys_vint hm) with ⟨h1, h2⟩ | ⟨j, e, h1, h2, h3⟩
 ·refine .inl ⟨vlookup_none fun p hp hpx => ?_, MapKept.run_findKey hk h1, h2⟩
  obtain ⟨i, hi⟩ := List.getElem?_of_mem hp
  have := congrArg (fun l => l[i]?) hm
  simp only [List.getElem?_map, hi, Option.map_some] at this
  obtain ⟨e, he, e2⟩ := Option.map_eq_some_iff.1 this
  refine h2 e (List.mem_of_getElem? he) ?_
  rw [show e.key = Value.int .i64 p.1 from congrArg Prod.fst e2, hpx]
 ·obtain ⟨p, hp, e1, e2⟩ := hget j e h2
  rw [h3] at e1
  have hx := intK_inj e1
  refine .inr ⟨j, p.2, ?_, ?_⟩
  ·rw [hx]; exact vlookup_at hn (List.mem_of_getElem? hp)
  ·have := MapKept.run_findKey (P := P) (w := w) hk h1
   rw [this, e2, Nat.zero_add]
theorem W_makeMapV {T : TypeId} (h : ∀ w', Ext w w' → w'.heap.size = w.heap.size + 1 → VMap w' w.heap.size [] → AX P all Z K rest (upd f d (.map (some w.heap.size))) ds w') :
  AX P all Z K (⟨some d, .makeMap T none, ty, pos, af, none⟩ :: rest) f ds w := by
 refine A4 (v := .map (some w.heap.size)) (w' := w.alloc (.map #[] 0)) rfl ?_ (h _ ⟨rfl, rfl, rfl, by simp, fun k hk _ => heap_alloc_old w _ hk, fun _ => mark_new (by simp) (fun k hk => heap_alloc_old w _ hk) (fun c t fr e => by rw [heap_alloc_new] at e; cases e)⟩ (by simp) ⟨#[], 0, heap_alloc_new w _, MapKept.stamped_empty 0, rfl⟩)
 have hr : (Instr.makeMap T none).run P w = .ok (.map (some w.heap.size)) (w.alloc (.map #[] 0)) := rfl
 simp [execOp, hr]
theorem W_lookup2V {T : TypeId} {m k : Operand} {r : Nat} {x : Int} {z : Value} {L : List (Int × Value)} [hT : VMapT P T z] (hm : ev f m = .map (some r)) (hk : ev f k = .int .i64 x) (hL : VMap w r L)
  (h : AX P all Z K rest (upd f d (.tuple #[(L.lookup x).getD z, .bool (L.lookup x).isSome])) ds w) : AX P all Z K (⟨some d, .lookup T m k true, ty, pos, af, none⟩ :: rest) f ds w := by
 obtain ⟨kt, et, i, h1, h2, h3, h4⟩ := hT.out
 have hn := nodup_vint hL
 obtain ⟨es, clock, hb, hs, hmm⟩ := hL
 refine A4 rfl ?_ h
 have hck := MapKept.run_checkKey (P := P) (w := w) (k := .int .i64 x) h2 rfl es.isEmpty 9999
 have hz : (zeroValue et).run P w = .ok z w := by simp [zeroValue, typeInfo, h3, h4]
 rcases find_vint h2 hmm hn x w with ⟨e1, e2, _⟩ | ⟨j, v, e1, e2⟩
 ·simp [execOp, hm, hk, Instr.lookup, run_underlying h1, MapKept.run_getObj_map hb, hck, e2, hz, e1]
 ·simp [execOp, hm, hk, Instr.lookup, run_underlying h1, MapKept.run_getObj_map hb, hck, e2, e1]
theorem setBlkV_keep {w : World} {r : Nat} {o' : Obj} (ho : ∀ c t fr, o' ≠ .cells c t fr) : Keep [r] w { w with heap := w.heap.setIfInBounds r o' } :=
 ⟨rfl, rfl, rfl, by simp, fun k _ hk => by simp [Ne.symm (show k ≠ r by simpa using hk)], fun _ => mark_obj ho⟩
theorem Bi {T : TypeId} {m k v : Operand} {r : Nat} {x : Int} {y z : Value} {L : List (Int × Value)} [hT : VMapT P T z] (hm : ev f m = .map (some r)) (hk : ev f k = .int .i64 x) (hv : ev f v = y) (hL : VMap w r L) (hx : L.lookup x = none)
  (h : ∀ w', Keep [r] w w' → w'.heap.size = w.heap.size → VMap w' r (L ++ [(x, y)]) → AX P all Z K rest f ds w') : AX P all Z K (⟨none, .insert T m k v, ty, pos, af, none⟩ :: rest) f ds w := by
 obtain ⟨kt, et, i, h1, h2, h3, h4⟩ := hT.out
 have hn := nodup_vint hL
 obtain ⟨es, clock, hb, hs, hmm⟩ := hL
 have hck := MapKept.run_checkKey (P := P) (w := w) (k := .int .i64 x) h2 rfl false 9999
 rcases find_vint h2 hmm hn x w with ⟨e1, e2, e3⟩ | ⟨j, v0, e1, e2⟩
 ·refine W_skp (w' := { w with heap := w.heap.setIfInBounds r (.map (es.push { key := .int .i64 x, val := y, born := clock }) (clock + 1)) }) rfl ?_ (h _ (setBlkV_keep fun _ _ _ h => by cases h) (by simp) ⟨_, _, (MapKept.heap_set hb).1, MapKept.stamped_push hs e3, ?_⟩)
  ·simp [execOp, hm, hk, hv, Instr.mapUpdate, run_underlying h1, MapKept.run_getObj_map hb, hck, e2, MapKept.run_setObj_map _ hb]
  ·rw [Array.toList_push, List.map_append, hmm]
   simp [rdV, encV]
 ·rw [e1] at hx; cases hx
end Go.Proofs.YtfcgdbmoncnibaaGreatDoor
namespace Go.Proofs.YtfcgdbmoncnibaaGreatDoor
open Go.RowKit
variable {mk : Prop} [MK mk]
attribute [local semireducible] WC AX B9 Bb B6 C2 Da Bu
variable {P : Program} {ops : Array Oper} {rr : Option Nat}
def backB (l : List Oper) : Bool := (List.range l.length).all fun i => match l[i]? with
 | some o => o.after.toList.all fun e => Nat.blt e.on i
 | none => true
theorem backB_at {l : List Oper} (h : backB l = true) {i : Nat} {o : Oper} (ho : l[i]? = some o) : ∀ e ∈ o.after, e.on < i := by
 intro e he
 have hi : i < l.length := (List.getElem?_eq_some_iff.1 ho).1
 have := List.all_eq_true.1 h i (List.mem_range.2 hi)
 rw [ho] at this
 have := List.all_eq_true.1 this e (by simpa using he)
 rw [Nat.blt_eq] at this
 exact this
theorem filter_lt {p q : Nat → Bool} {j : Nat} (hq : ∀ x, q x = true → p x = true) (hj : p j = true) (hj' : q j = false) : ∀ {l : List Nat}, j ∈ l → (l.filter q).length < (l.filter p).length
 | [], h => by cases h
 | x :: l, h => by
  have hle : ∀ m : List Nat, (m.filter q).length ≤ (m.filter p).length := by
   intro m
   induction m with
   | nil => exact Nat.le_refl _
   | cons y m ih =>
    rw [List.filter_cons, List.filter_cons]
    cases hy : q y with
    | true => rw [hq y hy]; simp; exact ih
    | false => cases p y <;> simp <;> omega
  rw [List.filter_cons, List.filter_cons]
  rcases List.mem_cons.1 h with rfl | h
  ·rw [hj, hj']
   have := hle l
   simp; omega
  ·have ih := filter_lt hq hj hj' h
   cases hx : q x with
   | true => rw [hq x hx]; simp; exact ih
   | false => cases p x <;> simp <;> omega
theorem wpAny_inv {n : Nat} {Q : Cq} {Inv : (Nat → Bool) → Fr → DS → World → Prop} (hok : ops.toList.all (opOk n rr.isSome) = true) (hback : ∀ (i : Nat) (o : Oper), ops[i]? = some o → ∀ e ∈ o.after, e.on < i)
  (step : ∀ (L : Nat → Bool) (f : Fr) (ds : DS) (w : World) (i : Nat) (o : Oper), Inv L f ds w → ops[i]? = some o → L i = false → (∀ e ∈ o.after, Region.binds .any e = true → L e.on = true) →
   AX P ops (fun f ds ch w => Q (.panic ch) f ds w) (fun f' ds' w' => Inv (fun j => j == i || L j) f' ds' w') [o] f ds w)
  (fin : ∀ (L : Nat → Bool) (f : Fr) (ds : DS) (w : World), Inv L f ds w → (∀ i, i < ops.size → L i = true) → Q .normal f ds w) :
  ∀ (fuel : Nat) (listed : Array Bool) (a : Act) (w : World), listed.size = ops.size → ((List.range ops.size).filter fun i => !listed.getD i true).length ≤ fuel → a.tmps.size = n → Inv (fun i => listed.getD i true) (CF a) a.defers w →
   wpAnyIn (rnd rr) 0 P .any ops (liftQ n Q) fuel listed a w := by
 have all_of : ∀ (listed : Array Bool), listed.size = ops.size → Region.ready .any ops listed = [] → ∀ i, i < ops.size → listed.getD i true = true := by
  intro listed hsz hr i
  induction i using Nat.strongRecOn with
  | ind i ih =>
   intro hi
   cases hl : listed.getD i true with
   | true => rfl
   | false =>
    exfalso
    have ho : ops[i]? = some ops[i] := Array.getElem?_eq_getElem hi
    have : i ∈ Region.ready .any ops listed := by
     refine mem_ready.2 ⟨hl, _, ho, fun e he hb => ?_⟩
     have hlt := hback i _ ho e he
     have := ih e.on hlt (by omega)
     rw [Array.getD_eq_getD_getElem?, Array.getElem?_eq_getElem (by omega)] at this ⊢
     exact this
    rw [hr] at this
    cases this
 have isFin : ∀ (listed : Array Bool) (a : Act) (w : World), listed.size = ops.size → a.tmps.size = n → Inv (fun i => listed.getD i true) (CF a) a.defers w → Region.ready .any ops listed = [] → liftQ n Q .normal a w :=
  fun listed a w hsz hn hI hr => ⟨hn, fin _ _ _ _ hI (fun i hi => all_of listed hsz hr i hi)⟩
 intro fuel
 induction fuel with
 | zero =>
  intro listed a w hsz hc hn hI
  have hr : Region.ready .any ops listed = [] := by
   cases hrd : Region.ready .any ops listed with
   | nil => rfl
   | cons j t =>
    exfalso
    obtain ⟨hj, oj, hoj, _⟩ := mem_ready.1 (show j ∈ Region.ready .any ops listed by rw [hrd]; simp)
    have hjlt : j < ops.size := (Array.getElem?_eq_some_iff.1 hoj).1
    have hm : j ∈ (List.range ops.size).filter fun i => !listed.getD i true := List.mem_filter.2 ⟨List.mem_range.2 hjlt, by rw [hj]; rfl⟩
    have := List.length_pos_of_mem hm
    omega
  exact ⟨hr, isFin listed a w hsz hn hI hr⟩
 | succ fuel ih =>
  intro listed a w hsz hc hn hI
  refine ⟨isFin listed a w hsz hn hI, fun i hi => ?_⟩
  obtain ⟨hun, oi, hoi, hall⟩ := mem_ready.1 hi
  have hilt : i < ops.size := (Array.getElem?_eq_some_iff.1 hoi).1
  have hdn : opOk n rr.isSome oi = true := List.all_eq_true.1 hok oi (by simpa using Array.mem_of_getElem? hoi)
  have hsL : ∀ e ∈ oi.after, Region.binds .any e = true → listed.getD e.on true = true := fun e he hb => by
   have h1 := hall e he hb
   have hlt := hback i _ hoi e he
   rw [Array.getD_eq_getD_getElem?, Array.getElem?_eq_getElem (by omega)] at h1 ⊢
   exact h1
  have hst := step _ _ _ _ i oi hI hoi hun hsL
  refine wpOp_of_WOps hoi hn hdn ?_ hst
  intro a' w' hn' hI'
  have hsame : (fun j => (listed.setIfInBounds i true).getD j true) = fun j => j == i || listed.getD j true := by
   funext j
   by_cases hji : j = i
   ·subst hji
    rw [Array.getD_eq_getD_getElem?, Array.getElem?_setIfInBounds_self, if_pos (by omega)]
    simp
   ·rw [Array.getD_eq_getD_getElem?, Array.getElem?_setIfInBounds_ne (Ne.symm hji), ← Array.getD_eq_getD_getElem?]
    simp [hji]
  refine ih (listed.setIfInBounds i true) a' w' (by simp [hsz]) ?_ hn' (by rw [hsame]; exact hI')
  have hlt := filter_lt (p := fun j => !listed.getD j true) (q := fun j => !(listed.setIfInBounds i true).getD j true) (j := i) (fun x hx => by
   have h2 : (listed.setIfInBounds i true).getD x true = (x == i || listed.getD x true) := congrFun hsame x
   rw [h2] at hx
   simp only [Bool.not_eq_true', Bool.or_eq_false_iff] at hx ⊢
   exact hx.2) (by rw [hun]; rfl) (by have h2 : (listed.setIfInBounds i true).getD i true = (i == i || listed.getD i true) := congrFun hsame i; rw [h2]; simp) (List.mem_range.2 hilt)
  omega
def quietQ (Q : Cq) : Cq := fun e f ds w => match e with
 | .normal => Q .normal f ds w
 | _ => False
theorem C_inv {n : Cf} {Q : Cq} {id : Nat} {l : List Oper} {f : Fr} {ds : DS} {w : World} (Inv : (Nat → Bool) → Fr → DS → World → Prop) (hm : P.follows .mixedOrders = true) (hc : (l.all (opOk n.n n.r.isSome) && backB l) = true)
  (hI : ∀ w1, Ext w w1 → w1.heap = w.heap → Inv (fun i => !Nat.blt i l.length) f ds w1)
  (step : ∀ (L : Nat → Bool) (f : Fr) (ds : DS) (w : World) (i : Nat) (o : Oper), Inv L f ds w → l[i]? = some o → L i = false → (∀ e ∈ o.after.toList, Region.binds .any e = true → L e.on = true) →
   AX P l.toArray (fun _ _ _ _ => False) (fun f' ds' w' => Inv (fun j => j == i || L j) f' ds' w') [o] f ds w)
  (fin : ∀ (L : Nat → Bool) (f : Fr) (ds : DS) (w : World), Inv L f ds w → (∀ i, i < l.length → L i = true) → Q .normal f ds w) : WC P n (.region id l.toArray true) Q f ds w := by
 simp only [Bool.and_eq_true] at hc
 rintro a hn rfl rfl
 refine wpIn_mono (Q := liftQ n.n (quietQ Q)) (wpIn_region_any hm ?_) ?_
 ·refine wpAny_inv (P := P) (Q := quietQ Q) (Inv := Inv) (ops := l.toArray) (rr := n.r) hc.1 (fun i o ho e he => backB_at hc.2 (by simpa using ho) e he) (fun L f ds w i o h1 h2 h3 h4 => step L f ds w i o h1 (by simpa using h2) h3 (fun e he => h4 e (by simpa using he))) (fun L f ds w h1 h2 => fin L f ds w h1 (fun i hi => h2 i (by simpa using hi))) _ _ a _ (by simp) ?_ hn ?_
  ·exact Nat.le_trans (List.length_filter_le _ _) (by simp)
  ·have := hI { w with drawn := w.drawn + 1 } ⟨rfl, rfl, rfl, Nat.le_refl _, fun _ _ _ => rfl, fun _ => mark_heap rfl⟩ rfl
   have e : (fun i => (Array.replicate l.toArray.size false).getD i true) = fun i => !Nat.blt i l.length := by
    funext i
    rw [Array.getD_eq_getD_getElem?, Array.getElem?_replicate]
    by_cases hi : i < l.length
    ·simp [hi]
    ·have hb : Nat.blt i l.length = false := by rw [Bool.eq_false_iff, ne_eq, Nat.blt_eq]; exact hi
     simp [hi, hb]
   rw [e]
   exact this
 ·intro e a w hq
  obtain ⟨h1, h2⟩ := hq
  cases e with
  | normal => exact ⟨h1, h2⟩
  | _ => exact h2.elim
end Go.Proofs.YtfcgdbmoncnibaaGreatDoor
namespace Go.Proofs.YtfcgdbmoncnibaaGreatDoor
open Go.RowKit
set_option linter.unusedVariables false
variable {mk : Prop} [MK mk]
def CP (s : Sty) : List Value := [AK s.sign, .int .i64 (s.level : Int), .int .i64 (s.first : Int), .int .i64 (s.next : Int), .int .i64 (s.least : Int), .int .i64 (s.most : Int), .int .i64 (s.val : Int), .int .i64 (s.bound : Int), .int .i64 (s.usual : Int)]
def Bn (s : Sty) : Value := .agg (CP s).toArray
theorem styC_one (s : Sty) : oneC (CP s) := by
 intro u hu
 simp only [CP, List.mem_cons, List.not_mem_nil, or_false] at hu
 rcases hu with rfl | rfl | rfl | rfl | rfl | rfl | rfl | rfl | rfl <;> rfl
def pfx : Sty := ⟨[], 4, 4, 0, 1, 1, 0, 0, 0⟩
def ifx : Sty := ⟨[], 3, 4, 3, 2, 2, 0, 0, 0⟩
def styK (k : Nat) : Sty := ((styL.map (·.2))[k - 1]?).getD pfx
def As (k : Nat) : Value := Bn (styK k)
def fn1 : Value := .func (.func 119) #[] #[]
def fn2 : Value := .func (.func 120) #[] #[]
def fn3 : Value := .func (.func 121) #[] #[]
def sty0 : List Value := [AK [], .int .i64 0, .int .i64 0, .int .i64 0, .int .i64 0, .int .i64 0, .int .i64 0, .int .i64 0, .int .i64 0]
instance : VMapT Tryz.prog 122 (.agg sty0.toArray) := vmapT_of Tryz.underlying122 Tryz.underlying3 (by kernel_rfl)
theorem Do (w : World) (s : Sty) (g : List UInt8) : Fn Tryz.prog 119 [Bn s, AK g] w fun v w' => v = Bn { s with sign := g } ∧ Ext w w' := by
 refine Ae Tryz.func119 rfl Tryz.ntmps119 (Nat.le_of_ble_eq_true rfl) (by kernel_rfl) ?_
 repeat refine nx rfl ?_
 (refine AA ?_; refine Bh (L := CP s) rfl (fun w1 n1 => ?_))
 refine Av (fun w2 n2 => ?_)
 have b1 := n1.blk.keep n2.keep (by simp)
 have b2 : Blk w2 w1.heap.size 129 sty0 := n2.blk
 have z1 := n1.size
 repeat refine nx rfl ?_
 refine AA (AU rfl (AD rfl ?_))
 refine Ah rfl rfl rfl b1 (by simp [CP]) (fun w3 p3 => ?_)
 have b3 : Blk w3 w.heap.size 129 (CP { s with sign := g }) := p3.blk
 have b2' := b2.keep p3.keep (by simp; omega)
 repeat refine nx rfl ?_
 refine AA (AV rfl (by assumption) (by rfl) ?_)
 refine AZ (cs := CP { s with sign := g }) rfl rfl rfl (styC_one _) b2' (by simp [sty0, CP]) (fun w4 p4 => ?_)
 have b4 : Blk w4 w1.heap.size 129 (CP { s with sign := g }) := p4.blk
 repeat refine nx rfl ?_
 exact A6 rfl rfl rfl b4.cells ⟨rfl, ((n1.keep.trans n2.keep).keep p3.keep (by simp)).keep p4.keep (by simp; omega)⟩
theorem bounded_ok (w : World) (s : Sty) (g : List UInt8) : Fn Tryz.prog 121 [Bn s, AK g] w fun v w' => v = Bn { s with sign := g, bound := 9999 } ∧ Ext w w' := by
 refine Ae Tryz.func121 rfl Tryz.ntmps121 (Nat.le_of_ble_eq_true rfl) (by kernel_rfl) ?_
 repeat refine nx rfl ?_
 (refine AA ?_; refine Bh (L := CP s) rfl (fun w1 n1 => ?_))
 refine Av (fun w2 n2 => ?_)
 have b1 := n1.blk.keep n2.keep (by simp)
 have b2 : Blk w2 w1.heap.size 129 sty0 := n2.blk
 have z1 := n1.size
 repeat refine nx rfl ?_
 refine AA (AU rfl (AD rfl ?_))
 refine Ah rfl rfl rfl b1 (by simp [CP]) (fun w3 p3 => ?_)
 have b3 : Blk w3 w.heap.size 129 (CP { s with sign := g }) := p3.blk
 refine AD rfl ?_
 refine Ah rfl rfl rfl b3 (by simp [CP]) (fun w4 p4 => ?_)
 have b4 : Blk w4 w.heap.size 129 (CP { s with sign := g, bound := 9999 }) := p4.blk
 have b2' := (b2.keep p3.keep (by simp; omega)).keep p4.keep (by simp; omega)
 repeat refine nx rfl ?_
 refine AA (AV rfl (by assumption) (by rfl) ?_)
 refine AZ (cs := CP { s with sign := g, bound := 9999 }) rfl rfl rfl (styC_one _) b2' (by simp [sty0, CP]) (fun w5 p5 => ?_)
 have b5 : Blk w5 w1.heap.size 129 (CP { s with sign := g, bound := 9999 }) := p5.blk
 repeat refine nx rfl ?_
 exact A6 rfl rfl rfl b5.cells ⟨rfl, (((n1.keep.trans n2.keep).keep p3.keep (by simp)).keep p4.keep (by simp)).keep p5.keep (by simp; omega)⟩
theorem valued_ok (w : World) (s : Sty) (g : List UInt8) (m u : Nat) : Fn Tryz.prog 120 [Bn s, AK g, .int .i64 (m : Int), .int .i64 (u : Int)] w fun v w' => v = Bn { s with sign := g, val := m, usual := u } ∧ Ext w w' := by
 refine Ae Tryz.func120 rfl Tryz.ntmps120 (Nat.le_of_ble_eq_true rfl) (by kernel_rfl) ?_
 repeat refine nx rfl ?_
 (refine AA ?_; refine Bh (L := CP s) rfl (fun w1 n1 => ?_))
 refine Av (fun w2 n2 => ?_)
 have b1 := n1.blk.keep n2.keep (by simp)
 have b2 : Blk w2 w1.heap.size 129 sty0 := n2.blk
 have z1 := n1.size
 repeat refine nx rfl ?_
 refine AA (AU rfl (AH rfl (AH rfl (AD rfl ?_))))
 refine Ah rfl rfl rfl b1 (by simp [CP]) (fun w3 p3 => ?_)
 have b3 : Blk w3 w.heap.size 129 (CP { s with sign := g }) := p3.blk
 refine AD rfl ?_
 refine Ah rfl rfl rfl b3 (by simp [CP]) (fun w4 p4 => ?_)
 have b4 : Blk w4 w.heap.size 129 (CP { s with sign := g, val := m }) := p4.blk
 refine AD rfl ?_
 refine Ah rfl rfl rfl b4 (by simp [CP]) (fun w5 p5 => ?_)
 have b5 : Blk w5 w.heap.size 129 (CP { s with sign := g, val := m, usual := u }) := p5.blk
 have b2' := ((b2.keep p3.keep (by simp; omega)).keep p4.keep (by simp; omega)).keep p5.keep (by simp; omega)
 repeat refine nx rfl ?_
 refine AA (AV rfl (by assumption) (by rfl) ?_)
 refine AZ (cs := CP { s with sign := g, val := m, usual := u }) rfl rfl rfl (styC_one _) b2' (by simp [sty0, CP]) (fun w6 p6 => ?_)
 have b6 : Blk w6 w1.heap.size 129 (CP { s with sign := g, val := m, usual := u }) := p6.blk
 repeat refine nx rfl ?_
 exact A6 rfl rfl rfl b6.cells ⟨rfl, ((((n1.keep.trans n2.keep).keep p3.keep (by simp)).keep p4.keep (by simp)).keep p5.keep (by simp)).keep p6.keep (by simp; omega)⟩
def valT : List (Nat × Nat × Value) := [(1, 9, As 1), (3, 10, As 2), (5, 11, As 3), (7, 12, fn1), (8, 13, Bn pfx), (9, 14, As 4), (11, 15, As 5), (13, 16, As 6), (15, 17, As 7), (17, 18, fn1), (18, 19, Bn pfx), (19, 20, As 8), (21, 21, fn1), (22, 22, Bn ifx), (23, 23, As 9), (25, 24, fn1), (26, 25, Bn ifx), (27, 26, As 10), (29, 27, fn1), (30, 28, Bn pfx), (31, 29, As 11), (33, 30, fn1), (34, 31, Bn pfx), (35, 32, As 12), (37, 33, fn3), (38, 34, Bn pfx), (39, 35, As 13), (41, 36, fn3), (42, 37, Bn pfx), (43, 38, As 14), (45, 39, fn2), (46, 40, Bn pfx), (47, 41, As 15), (49, 42, fn2), (50, 43, Bn ifx), (51, 44, As 16), (53, 45, fn2), (54, 46, Bn ifx), (55, 47, As 17), (57, 48, fn1), (58, 49, Bn pfx), (59, 50, As 18), (61, 51, fn1), (62, 52, Bn pfx), (63, 53, As 19)]
def insT : List (Nat × Int × Value) := [(2, 1, As 1), (4, 2, As 2), (6, 3, As 3), (10, 4, As 4), (12, 5, As 5), (14, 6, As 6), (16, 7, As 7), (20, 8, As 8), (24, 9, As 9), (28, 10, As 10), (32, 11, As 11), (36, 12, As 12), (40, 13, As 13), (44, 14, As 14), (48, 15, As 15), (52, 16, As 16), (56, 17, As 17), (60, 18, As 18), (64, 19, As 19)]
def vOps : List Nat := valT.map (·.1)
def vSlots : List Nat := valT.map (·.2.1)
def iOps : List Nat := insT.map (·.1)
theorem v_ops : ∀ p ∈ valT, p.1 < 67 ∧ p.1 ≠ 0 ∧ p.1 ≠ 65 ∧ p.1 ≠ 66 ∧ p.1 ∉ iOps := by
 have h : (vOps.all fun i => Nat.blt i 67 && i != 0 && i != 65 && i != 66 && !iOps.contains i) = true := by kernel_rfl
 intro p hp
 have := List.all_eq_true.1 h p.1 (List.mem_map.2 ⟨p, hp, rfl⟩)
 simpa [Nat.blt_eq, and_assoc] using this
theorem v_slots : ∀ p ∈ valT, 8 < p.2.1 ∧ p.2.1 < 54 := by
 have h : (vSlots.all fun i => Nat.blt 8 i && Nat.blt i 54) = true := by kernel_rfl
 intro p hp
 have := List.all_eq_true.1 h p.2.1 (List.mem_map.2 ⟨p, hp, rfl⟩)
 simpa [Nat.blt_eq] using this
theorem i_ops : ∀ p ∈ insT, p.1 < 67 ∧ p.1 ≠ 0 ∧ p.1 ≠ 65 ∧ p.1 ≠ 66 ∧ p.1 ∉ vOps := by
 have h : (iOps.all fun i => Nat.blt i 67 && i != 0 && i != 65 && i != 66 && !vOps.contains i) = true := by kernel_rfl
 intro p hp
 have := List.all_eq_true.1 h p.1 (List.mem_map.2 ⟨p, hp, rfl⟩)
 simpa [Nat.blt_eq, and_assoc] using this
theorem nodup_of {l : List Nat} (h : (l.zipIdx.all fun x => l.zipIdx.all fun y => Nat.beq x.2 y.2 || !Nat.beq x.1 y.1) = true) {i j : Nat} {a : Nat} (hi : l[i]? = some a) (hj : l[j]? = some a) : i = j := by
 have h1 := List.all_eq_true.1 h (a, i) (List.mem_zipIdx_iff_getElem?.2 (by simpa using hi))
 have h2 := List.all_eq_true.1 h1 (a, j) (List.mem_zipIdx_iff_getElem?.2 (by simpa using hj))
 simpa using h2
theorem uniq_of {α : Type} {l : List α} {g : α → Nat} (h : (((l.map g).zipIdx).all fun x => (l.map g).zipIdx.all fun y => Nat.beq x.2 y.2 || !Nat.beq x.1 y.1) = true) {p q : α} (hp : p ∈ l) (hq : q ∈ l) (e : g p = g q) : p = q := by
 obtain ⟨i, hi⟩ := List.getElem?_of_mem hp
 obtain ⟨j, hj⟩ := List.getElem?_of_mem hq
 have := nodup_of h (i := i) (j := j) (a := g p) (by rw [List.getElem?_map, hi]; rfl) (by rw [List.getElem?_map, hj, e]; rfl)
 subst this
 rw [hi] at hj
 exact Option.some.inj hj
theorem v_uop {p q : Nat × Nat × Value} (hp : p ∈ valT) (hq : q ∈ valT) (e : p.1 = q.1) : p = q := uniq_of (g := (·.1)) (by kernel_rfl) hp hq e
theorem v_uslot {p q : Nat × Nat × Value} (hp : p ∈ valT) (hq : q ∈ valT) (e : p.2.1 = q.2.1) : p = q := uniq_of (g := (·.2.1)) (by kernel_rfl) hp hq e
theorem i_uop {p q : Nat × Int × Value} (hp : p ∈ insT) (hq : q ∈ insT) (e : p.1 = q.1) : p = q := uniq_of (g := (·.1)) (by kernel_rfl) hp hq e
theorem i_ukey {p q : Nat × Int × Value} (hp : p ∈ insT) (hq : q ∈ insT) (e : p.2.1 = q.2.1) : p = q := uniq_of (g := fun x => x.2.1.toNat) (by kernel_rfl) hp hq (congrArg Int.toNat e)
structure StyInv (b1 b2 : Nat) (wd : World) (ds0 : DS) (L : Nat → Bool) (f : Fr) (ds : DS) (w : World) : Prop where
 ds : ds = ds0
 ext : Ext wd w
 p1 : f 1 = .pointer (some ⟨b1, 0, none⟩)
 p2 : f 2 = .pointer (some ⟨b2, 0, none⟩)
 p3 : f 3 = fn1
 p4 : f 4 = fn2
 p5 : f 5 = fn3
 vals : ∀ p ∈ valT, L p.1 = true → f p.2.1 = p.2.2
 ord : ∀ p ∈ insT, L p.1 = true → L 0 = true
 map : L 0 = true → ∃ r M, f 8 = .map (some r) ∧ wd.heap.size ≤ r ∧ VMap w r M ∧ ∀ k v, (k, v) ∈ M ↔ ∃ p ∈ insT, L p.1 = true ∧ k = p.2.1 ∧ v = p.2.2
 ord65 : L 65 = true → L 0 = true
 l65 : L 65 = true → f 54 = f 8
 l66 : L 66 = true → f 0 = f 8 ∧ L 65 = true
theorem upd_at (f : Fr) (d : Nat) (v : Value) : upd f d v d = v := by simp [upd]
theorem Bd {f : Fr} {d j : Nat} {v : Value} (h : j ≠ d) : upd f d v j = f j := by
 have : Nat.beq j d = false := by rw [Bool.eq_false_iff, ne_eq, Nat.beq_eq]; exact h
 simp [upd, this]
section
variable {b1 b2 : Nat} {wd w w' : World} {ds0 ds : DS} {L : Nat → Bool} {f : Fr}
theorem C0 {i j : Nat} (h : j ≠ i) : (j == i || L j) = L j := by simp [h]
theorem or_at (i : Nat) : (i == i || L i) = true := by simp
theorem Al {p : Nat × Nat × Value} (h : StyInv b1 b2 wd ds0 L f ds w) (hp : p ∈ valT) (k : Ext w w') : StyInv b1 b2 wd ds0 (fun j => j == p.1 || L j) (upd f p.2.1 p.2.2) ds w' := by
 obtain ⟨o1, o2, o3, o4, o5⟩ := v_ops p hp
 obtain ⟨s1, s2⟩ := v_slots p hp
 have hins : ∀ q ∈ insT, q.1 ≠ p.1 := fun q hq e => o5 (List.mem_map.2 ⟨q, hq, e⟩)
 refine ⟨h.ds, h.ext.trans k, by rw [Bd (by omega)]; exact h.p1, by rw [Bd (by omega)]; exact h.p2, by rw [Bd (by omega)]; exact h.p3, by rw [Bd (by omega)]; exact h.p4, by rw [Bd (by omega)]; exact h.p5, ?_, ?_, ?_, ?_, ?_, ?_⟩
 ·intro q hq hL
  by_cases e : q.1 = p.1
  ·rw [v_uop hq hp e, upd_at]
  ·rw [Bd (fun e2 => e (by rw [v_uslot hq hp e2]))]
   exact h.vals q hq (by rw [C0 e] at hL; exact hL)
 ·intro q hq hL
  rw [C0 (hins q hq)] at hL
  show (0 == p.1 || L 0) = true
  rw [C0 (Ne.symm o2)]; exact h.ord q hq hL
 ·intro hL
  rw [C0 (Ne.symm o2)] at hL
  obtain ⟨r, M, e1, e2, e3, e4⟩ := h.map hL
  refine ⟨r, M, by rw [Bd (by omega)]; exact e1, e2, e3.keep k (by simp), fun a v => ?_⟩
  rw [e4]
  constructor
  ·rintro ⟨q, hq, h1, h2⟩; exact ⟨q, hq, by rw [C0 (hins q hq)]; exact h1, h2⟩
  ·rintro ⟨q, hq, h1, h2⟩; rw [C0 (hins q hq)] at h1; exact ⟨q, hq, h1, h2⟩
 ·intro hL
  rw [C0 (Ne.symm o3)] at hL
  show (0 == p.1 || L 0) = true
  rw [C0 (Ne.symm o2)]; exact h.ord65 hL
 ·intro hL
  rw [C0 (Ne.symm o3)] at hL
  rw [Bd (by omega), Bd (by omega)]; exact h.l65 hL
 ·intro hL
  rw [C0 (Ne.symm o4)] at hL
  rw [Bd (by omega), Bd (by omega), C0 (Ne.symm o3)]; exact h.l66 hL
theorem styInv_make (h : StyInv b1 b2 wd ds0 L f ds w) (k : Ext w w') (m : VMap w' w.heap.size []) (h0 : L 0 = false) : StyInv b1 b2 wd ds0 (fun j => j == 0 || L j) (upd f 8 (.map (some w.heap.size))) ds w' := by
 have hno : ∀ q ∈ insT, L q.1 = false := fun q hq => by
  cases hL : L q.1 with
  | false => rfl
  | true => rw [h.ord q hq hL] at h0; cases h0
 refine ⟨h.ds, h.ext.trans k, by rw [Bd (by omega)]; exact h.p1, by rw [Bd (by omega)]; exact h.p2, by rw [Bd (by omega)]; exact h.p3, by rw [Bd (by omega)]; exact h.p4, by rw [Bd (by omega)]; exact h.p5, ?_, ?_, ?_, fun _ => or_at 0, ?_, ?_⟩
 ·intro q hq hL
  obtain ⟨o1, o2, _⟩ := v_ops q hq
  obtain ⟨s1, s2⟩ := v_slots q hq
  rw [Bd (by omega)]
  exact h.vals q hq (by rw [C0 o2] at hL; exact hL)
 ·intro q hq hL; exact or_at 0
 ·intro hL
  refine ⟨w.heap.size, [], upd_at _ _ _, h.ext.size, m, fun a v => ⟨fun h => (by cases h), ?_⟩⟩
  rintro ⟨q, hq, h1, h2⟩
  obtain ⟨o1, o2, _⟩ := i_ops q hq
  rw [C0 o2, hno q hq] at h1; cases h1
 ·intro hL
  rw [C0 (by omega)] at hL
  rw [h.ord65 hL] at h0; cases h0
 ·intro hL
  rw [C0 (by omega)] at hL
  rw [h.ord65 (h.l66 hL).2] at h0; cases h0
theorem StyInv.none {q : Nat × Int × Value} {M : List (Int × Value)} (h : StyInv b1 b2 wd ds0 L f ds w) (hq : q ∈ insT) (hL : L q.1 = false) (hm : ∀ k v, (k, v) ∈ M ↔ ∃ p ∈ insT, L p.1 = true ∧ k = p.2.1 ∧ v = p.2.2) : M.lookup q.2.1 = none := by
 refine vlookup_none fun p hp e => ?_
 obtain ⟨x, hx, h1, h2, _⟩ := (hm p.1 p.2).1 hp
 rw [i_ukey hx hq (by rw [← h2, e]), hL] at h1
 cases h1
theorem BV {q : Nat × Int × Value} {r : Nat} {M : List (Int × Value)} (h : StyInv b1 b2 wd ds0 L f ds w) (hq : q ∈ insT) (hr : f 8 = .map (some r)) (hlr : wd.heap.size ≤ r) (hm : ∀ k v, (k, v) ∈ M ↔ ∃ p ∈ insT, L p.1 = true ∧ k = p.2.1 ∧ v = p.2.2)
  (k : Keep [r] w w') (m : VMap w' r (M ++ [(q.2.1, q.2.2)])) (h0 : L 0 = true) : StyInv b1 b2 wd ds0 (fun j => j == q.1 || L j) f ds w' := by
 obtain ⟨o1, o2, o3, o4, o5⟩ := i_ops q hq
 have hv : ∀ p ∈ valT, p.1 ≠ q.1 := fun p hp e => o5 (List.mem_map.2 ⟨p, hp, e⟩)
 have hz : (0 == q.1 || L 0) = true := by rw [h0]; simp
 refine ⟨h.ds, h.ext.keep k (by simpa using hlr), h.p1, h.p2, h.p3, h.p4, h.p5, ?_, fun _ _ _ => hz, ?_, fun _ => hz, ?_, ?_⟩
 ·intro p hp hL
  rw [C0 (hv p hp)] at hL
  exact h.vals p hp hL
 ·intro _
  refine ⟨r, _, hr, hlr, m, fun a v => ?_⟩
  rw [List.mem_append, hm]
  constructor
  ·rintro (⟨p, hp, h1, h2, h3⟩ | h1)
   ·exact ⟨p, hp, by rw [h1]; simp, h2, h3⟩
   ·simp only [List.mem_singleton, Prod.mk.injEq] at h1
    exact ⟨q, hq, or_at _, h1.1, h1.2⟩
  ·rintro ⟨p, hp, h1, h2, h3⟩
   by_cases e : p.1 = q.1
   ·have := i_uop hp hq e
    subst this
    right; simp [h2, h3]
   ·rw [C0 e] at h1
    exact .inl ⟨p, hp, h1, h2, h3⟩
 ·intro hL
  rw [C0 (Ne.symm o3)] at hL
  exact h.l65 hL
 ·intro hL
  rw [C0 (Ne.symm o4)] at hL
  rw [C0 (Ne.symm o3)]
  exact h.l66 hL
theorem styInv_65 (h : StyInv b1 b2 wd ds0 L f ds w) (h0 : L 0 = true) : StyInv b1 b2 wd ds0 (fun j => j == 65 || L j) (upd f 54 (f 8)) ds w := by
 refine ⟨h.ds, h.ext, by rw [Bd (by omega)]; exact h.p1, by rw [Bd (by omega)]; exact h.p2, by rw [Bd (by omega)]; exact h.p3, by rw [Bd (by omega)]; exact h.p4, by rw [Bd (by omega)]; exact h.p5, ?_, ?_, ?_, ?_, ?_, ?_⟩
 ·intro q hq hL
  obtain ⟨o1, o2, o3, _⟩ := v_ops q hq
  obtain ⟨s1, s2⟩ := v_slots q hq
  rw [Bd (by omega)]
  exact h.vals q hq (by rw [C0 o3] at hL; exact hL)
 ·intro q hq hL; rw [h0]; rfl
 ·intro _
  obtain ⟨r, M, e1, e2, e3, e4⟩ := h.map h0
  refine ⟨r, M, by rw [Bd (by omega)]; exact e1, e2, e3, fun a v => ?_⟩
  rw [e4]
  constructor
  ·rintro ⟨q, hq, h1, h2⟩; exact ⟨q, hq, by rw [h1]; simp, h2⟩
  ·rintro ⟨q, hq, h1, h2⟩
   obtain ⟨_, _, o3, _⟩ := i_ops q hq
   rw [C0 o3] at h1; exact ⟨q, hq, h1, h2⟩
 ·intro _; rw [h0]; rfl
 ·intro _; rw [upd_at, Bd (by omega)]
 ·intro hL
  rw [C0 (by omega)] at hL
  rw [Bd (by omega), Bd (by omega)]
  exact ⟨(h.l66 hL).1, or_at 65⟩
theorem styInv_66 (h : StyInv b1 b2 wd ds0 L f ds w) (h65 : L 65 = true) : StyInv b1 b2 wd ds0 (fun j => j == 66 || L j) (upd f 0 (f 54)) ds w := by
 have h0 := h.ord65 h65
 refine ⟨h.ds, h.ext, by rw [Bd (by omega)]; exact h.p1, by rw [Bd (by omega)]; exact h.p2, by rw [Bd (by omega)]; exact h.p3, by rw [Bd (by omega)]; exact h.p4, by rw [Bd (by omega)]; exact h.p5, ?_, ?_, ?_, ?_, ?_, ?_⟩
 ·intro q hq hL
  obtain ⟨o1, o2, o3, o4, _⟩ := v_ops q hq
  obtain ⟨s1, s2⟩ := v_slots q hq
  rw [Bd (by omega)]
  exact h.vals q hq (by rw [C0 o4] at hL; exact hL)
 ·intro q hq hL; rw [h0]; rfl
 ·intro _
  obtain ⟨r, M, e1, e2, e3, e4⟩ := h.map h0
  refine ⟨r, M, by rw [Bd (by omega)]; exact e1, e2, e3, fun a v => ?_⟩
  rw [e4]
  constructor
  ·rintro ⟨q, hq, h1, h2⟩; exact ⟨q, hq, by rw [h1]; simp, h2⟩
  ·rintro ⟨q, hq, h1, h2⟩
   obtain ⟨_, _, _, o4, _⟩ := i_ops q hq
   rw [C0 o4] at h1; exact ⟨q, hq, h1, h2⟩
 ·intro _; rw [h0]; rfl
 ·intro _; rw [Bd (by omega), Bd (by omega)]; exact h.l65 h65
 ·intro hL
  rw [upd_at, Bd (by omega), h.l65 h65, h65]
  exact ⟨rfl, by simp⟩
end
end Go.Proofs.YtfcgdbmoncnibaaGreatDoor
