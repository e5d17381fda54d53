/- The parser: formulas with operators between them. The parser: values in a row, loops that read them. Joins: what holds behind a branch, as a function of a state. The parser: signals, requirements. The parser: parts, specifications, edits. The parser: specifications, edits. Conditions: none. -/
import Derived.Test.YtfcgdbmoncnibaaGreatDoorZG5

namespace Go.Proofs.YtfcgdbmoncnibaaGreatDoor
open Go.RowKit
set_option linter.unusedVariables false
variable {mk : Prop} [MK mk]
theorem Ch {cs : List Value} (h : cs.length = 5) : ∃ c0 c1 c2 c3 c4, cs = [c0, c1, c2, c3, c4] := by
 match cs, h with
 | [c0, c1, c2, c3, c4], _ => exact ⟨_, _, _, _, _, rfl⟩
theorem until_ok (E : Env) (N : Nat) (hP : CW E N 164 (body .unary)) (hU : ∀ M, M < N → CW E M 158 (body .untilN)) : CW E N 158 (body .untilN) := by
 intro w ts h hN
 have hsl := h.st.slt
 unfold PDo
 refine Ar Tryz.func158 rfl Tryz.ntmps158 (Nat.le_of_ble_eq_true rfl) (by kernel_rfl) ?_
 repeat refine nx rfl ?_
 refine AA ?_
 refine Ay (fun w1 n1 => ?_)
 have b1 : Blk w1 w.heap.size 24 Cn := n1.blk
 have z1 := n1.size
 have h1 := h.ext n1.keep
 have k1 : Keep [E.s] w w1 := n1.keep.any
 repeat refine nx rfl ?_
 refine AA (AQ rfl ?_)
 refine Aa (hP w1 ts h1 hN) rfl ?_ ?_
 rotate_left
 ·rintro ch wq ⟨kq, lq, rq, rfl⟩
  repeat refine nx rfl ?_
  exact AY ⟨k1.trans kq (by simp), lq, Run.callE rq, rfl⟩
 rintro v w2 ⟨k2, a1, t2, r2, q2, f2⟩
 have h2 := h1.next k2 q2
 have b2 := b1.keep k2 (by simp <;> omega)
 have k12 := k1.trans k2 (by simp)
 have z2 := k2.size
 have l2 : t2.length ≤ ts.length := (show t2 <:+ ts from r2.suffix).length_le
 replace f2 := f2.lt
 obtain ⟨cs, rfl, hcs, hone⟩ := f2.cells
 obtain ⟨c0, c1, c2, c3, c4, rfl⟩ := Ch hcs
 refine BE (cs := [c0, c1, c2, c3, c4]) rfl rfl (by rfl) hone (fun w3 n3 => ?_)
 have h3 := h2.ext n3.keep
 have b3 := b2.keep n3.keep (by simp)
 have z3 := n3.size
 have e3 := n3.blk
 have f3 := f2.new n3
 have k13 := k12.ext n3.keep
 obtain ⟨ta, tc, hb3, _⟩ := h3.st.blk
 have hlt := h3.st.lt
 repeat refine nx rfl ?_
 refine AA (AQ rfl (AQ rfl (AH rfl (AD rfl (AG rfl (Blk.cell (by assumption) (by rfl)) ?_)))))
 refine AS (take_ok E w3 t2 E.mi infixT h3.st h3.st.inf (by omega)) rfl ?_
 rintro v w4 ⟨k4, o, t4, rfl, r4, q4⟩
 have h4 := h3.next k4 q4
 have b4 := b3.keep k4 (by simp <;> omega)
 have e4 := e3.keep k4 (by simp <;> omega)
 have f4 := f3.keep k4 (by intro b hb; simp [fresh] at hb ⊢; omega)
 have k14 := k13.trans k4 (by simp)
 have z4 := k4.size
 refine Bp rfl (Ag rfl rfl (Ag rfl rfl ?_))
 refine BE (cs := takeV o) rfl rfl (by rfl) (oneC_opr _) (fun w5 n5 => ?_)
 have h5 := h4.ext n5.keep
 have b5 := b4.keep n5.keep (by simp)
 have e5 := e4.keep n5.keep (by simp)
 have f5 := f4.new n5
 have z5 := n5.size
 have g5 := n5.blk
 have k15 := k14.ext n5.keep
 refine AC (AB rfl ?_)
 repeat refine nx rfl ?_
 rcases take_inv r4 with ⟨q, rfl, hl4⟩ | ⟨rfl, rfl⟩
 ·replace g5 : Blk w5 w4.heap.size 191 [.int .i64 q.op, .int .i64 q.indexed, .int .i64 q.val] := g5
  refine AA (AB rfl (A9 rfl ?_))
  repeat first | refine nx rfl ?_ | refine nf rfl ?_
  (refine AA (AD rfl (AG rfl (Blk.cell (by assumption) (by rfl)) ?_)) <;> refine AD rfl (AG rfl (Blk.cell (by assumption) (by rfl)) ?_) <;> refine Ad (by rfl) (by rfl) ?_)
  refine BE (cs := [.int .i64 q.op, AL [], .int .i64 q.val, .int .i64 0, .slice none 0 0]) rfl rfl (by rfl) (oneC_fml _ _ _ _ _ _ _ rfl rfl rfl rfl) (fun w6 n6 => ?_)
  have h6 := h5.ext n6.keep
  have b6 := b5.keep n6.keep (by simp)
  have e6 := e5.keep n6.keep (by simp)
  have f6 := f5.new n6
  have g6 := g5.keep n6.keep (by simp)
  have z6 := n6.size
  have u6 := n6.blk
  have k16 := k15.ext n6.keep
  repeat refine nx rfl ?_
  refine AA (AQ rfl (AX rfl (by assumption) (by rfl) ?_))
  refine Aa (index_ok E w6 t4 q h6.st) rfl ?_ ?_
  rotate_left
  ·rintro ch wq ⟨kq, lq, rq, rfl⟩
   repeat refine nx rfl ?_
   exact AY ⟨k16.trans kq (by simp), lq, Run.call r2 (r4.bind (Run.bindE rq)), rfl⟩
  rintro v wi ⟨ki, n, t5, r5, qi, rfl, hn0, hn1⟩
  have hi := h6.next ki qi
  have bi := b6.keep ki (by simp <;> omega)
  have ei := e6.keep ki (by simp <;> omega)
  have fi := f6.keep ki (by intro b hb; simp [fresh] at hb ⊢; omega)
  have ui := u6.keep ki (by simp <;> omega)
  have kwi := k16.trans ki (by simp)
  have zi := ki.size
  have l5 : t5.length ≤ t4.length := (show t5 <:+ t4 from r5.suffix).length_le
  refine Bp rfl (Ag rfl rfl (Ag rfl rfl (AC (AF rfl (AC (AB rfl ?_))))))
  repeat refine nx rfl ?_
  refine AA (AB rfl (AJ ?_))
  cases n with
  | none =>
   repeat first | refine nx rfl ?_ | refine nf rfl ?_
   refine B3 (.read 0 (.read 1 (.alt 2 (.alt 3 (.read 4 (.alt 5 .done .stop)) .stop) .stop))) BP (by kernel_rfl) (by repeat (first | exact BW | refine BI ?_)) (fun wd kd ed => ⟨fun W => Keep [E.s, w5.heap.size] wd W, ?_, ?_⟩)
   ·exact Keep.refl _ _
   have hd := (hi).ext kd
   have bd := (bi).keep kd (by simp)
   have gd := (ui).keep kd (by simp)
   have ed3 := (ei).keep kd (by simp)
   have fd3 := (fi).ext kd
   have zd : wd.heap.size = (wi).heap.size := by rw [ed]
   have fc : ∀ W, Keep [E.s, w5.heap.size] wd W → Cells W w2.heap.size 0 [c0, c1, c2, c3, c4] := fun W hW => (ed3.keep hW (by simp <;> omega)).cells
   ((apply D_R rfl rfl; (intro W hW; refine Ac rfl (by rfl) (fc W hW) ?_; exact Z3)) <;> refine D_R rfl rfl (fun W hW => AQ rfl Z3) ?_)
   refine D_E rfl ?_
   refine Aa (hU t5.length (by omega) wd t5 hd (Nat.le_refl _)) rfl ?_ ?_
   rotate_left
   ·rintro ch wq ⟨kq, lq, rq, rfl⟩
    repeat refine nx rfl ?_
    exact AY ⟨((kwi).ext kd).trans kq (by simp), lq, Run.call r2 (r4.bind (r5.bind (Run.callE rq))), rfl⟩
   rintro v w7 ⟨k7, a2, t7, r7, q7, f7⟩
   have h7 := hd.next k7 q7
   have b7 := bd.keep k7 (by simp <;> omega)
   have g7 := gd.keep k7 (by simp <;> omega)
   have f37 := fd3.keep k7 (by intro b hb; simp [fresh] at hb ⊢; omega)
   have k17 := ((kwi).ext kd).trans k7 (by simp)
   have z7 := k7.size
   obtain ⟨ds, rfl, hds, hone2⟩ := f7.cells
   obtain ⟨d0, d1, d2, d3, d4, rfl⟩ := Ch hds
   refine AJ ⟨fun W => Keep [E.s, w5.heap.size] w7 W, fun W hW => (k7.mono (by simp)).trans hW (by simp), Keep.refl _ _, ?_⟩
   refine D_E rfl ?_
   refine AV (out := [c0, c1, c2, c3, c4, d0, d1, d2, d3, d4]) rfl (by omega) (by rw [made10]; rfl) (fun w8 n8 => ?_)
   have z8 := n8.size
   have b8 := b7.keep n8.keep (by simp)
   have g8 := g7.keep n8.keep (by simp)
   obtain ⟨S8, F8⟩ := FsAt.fresh (ok := fun b => w.heap.size < b ∧ b ≠ w5.heap.size) (L := [[c0, c1, c2, c3, c4], [d0, d1, d2, d3, d4]]) n8 (FsAt.two (f37.mono fun b hb => by simp only [fresh] at hb ⊢; omega) rfl (f7.mono fun b hb => by simp only [fresh] at hb ⊢; omega) rfl) (by omega) (by simp)
   refine AJ ⟨fun W => Keep [E.s, w5.heap.size] w8 W, fun W hW => n8.keep.any.trans hW (by simp), Keep.refl _ _, ?_⟩
   ((apply D_R rfl rfl; (intro W hW; refine AD rfl ?_; exact AJ ⟨rfl, rfl, rfl⟩)))
   refine D_E rfl ?_
   refine Ao rfl rfl rfl g8 (by simp) (fun w9 p9 => ?_)
   have b9 := b8.keep p9.keep (by simp <;> omega)
   have g9 := p9.blk
   have z9 := p9.size
   have f9 := (FAt.node q.op [] (q.val) 0 S8 F8).keep p9.keep (by intro b hb; simp at hb ⊢; omega)
   refine AJ ⟨fun W => W = w9, fun W hW => hW ▸ p9.keep.mono (by simp), rfl, ?_⟩
   refine A8 ?_
   repeat refine nx rfl ?_
   refine AA (AX rfl g9 rfl ?_)
   refine Bu rfl rfl f9 b9 rfl (fun w10 cs' e hcs' k10 z10 b10 => ?_)
   repeat refine nx rfl ?_
   refine A6 rfl rfl hcs' b10.cells ⟨((k17.ext n8.keep).trans p9.keep (by simp <;> omega)).trans k10 (by simp <;> omega), ⟨q.op, [], q.val, 0, [a1, a2]⟩, t7, Run.call r2 (r4.bind (r5.bind (Run.call r7 (Run.ret _ _)))), ((q7.ext n8.keep).keep p9.keep (by simp <;> omega)).keep k10 (by simp <;> omega), ?_⟩
   rw [← e]
   exact (f9.keep k10 (by intro b hb; simp at hb ⊢; omega)).mono (fun b hb => by simp only [fresh] at hb ⊢; omega)
  | some n =>
   repeat refine nx rfl ?_
   refine AA (AF rfl (AD rfl ?_))
   refine Ao rfl rfl rfl ui (by simp) (fun wj pj => ?_)
   have uj : Blk wj w5.heap.size 24 [.int .i64 q.op, AL [], .int .i64 n, .int .i64 0, .slice none 0 0] := pj.blk
   have hj := hi.keep pj.keep (by simp <;> omega)
   have bj := bi.keep pj.keep (by simp <;> omega)
   have ej := ei.keep pj.keep (by simp <;> omega)
   have fj := fi.keep pj.keep (by intro b hb; simp [fresh] at hb ⊢; omega)
   have kwj := kwi.trans pj.keep (by simp <;> omega)
   have zj := pj.size
   repeat refine nx rfl ?_
   refine B3 (.read 0 (.read 1 (.alt 2 (.alt 3 (.read 4 (.alt 5 .done .stop)) .stop) .stop))) BP (by kernel_rfl) (by repeat (first | exact BW | refine BI ?_)) (fun wd kd ed => ⟨fun W => Keep [E.s, w5.heap.size] wd W, ?_, ?_⟩)
   ·exact Keep.refl _ _
   have hd := (hj).ext kd
   have bd := (bj).keep kd (by simp)
   have gd := (uj).keep kd (by simp)
   have ed3 := (ej).keep kd (by simp)
   have fd3 := (fj).ext kd
   have zd : wd.heap.size = (wj).heap.size := by rw [ed]
   have fc : ∀ W, Keep [E.s, w5.heap.size] wd W → Cells W w2.heap.size 0 [c0, c1, c2, c3, c4] := fun W hW => (ed3.keep hW (by simp <;> omega)).cells
   ((apply D_R rfl rfl; (intro W hW; refine Ac rfl (by rfl) (fc W hW) ?_; exact Z3)) <;> refine D_R rfl rfl (fun W hW => AQ rfl Z3) ?_)
   refine D_E rfl ?_
   refine Aa (hU t5.length (by omega) wd t5 hd (Nat.le_refl _)) rfl ?_ ?_
   rotate_left
   ·rintro ch wq ⟨kq, lq, rq, rfl⟩
    repeat refine nx rfl ?_
    exact AY ⟨((kwj).ext kd).trans kq (by simp), lq, Run.call r2 (r4.bind (r5.bind (Run.callE rq))), rfl⟩
   rintro v w7 ⟨k7, a2, t7, r7, q7, f7⟩
   have h7 := hd.next k7 q7
   have b7 := bd.keep k7 (by simp <;> omega)
   have g7 := gd.keep k7 (by simp <;> omega)
   have f37 := fd3.keep k7 (by intro b hb; simp [fresh] at hb ⊢; omega)
   have k17 := ((kwj).ext kd).trans k7 (by simp)
   have z7 := k7.size
   obtain ⟨ds, rfl, hds, hone2⟩ := f7.cells
   obtain ⟨d0, d1, d2, d3, d4, rfl⟩ := Ch hds
   refine AJ ⟨fun W => Keep [E.s, w5.heap.size] w7 W, fun W hW => (k7.mono (by simp)).trans hW (by simp), Keep.refl _ _, ?_⟩
   refine D_E rfl ?_
   refine AV (out := [c0, c1, c2, c3, c4, d0, d1, d2, d3, d4]) rfl (by omega) (by rw [made10]; rfl) (fun w8 n8 => ?_)
   have z8 := n8.size
   have b8 := b7.keep n8.keep (by simp)
   have g8 := g7.keep n8.keep (by simp)
   obtain ⟨S8, F8⟩ := FsAt.fresh (ok := fun b => w.heap.size < b ∧ b ≠ w5.heap.size) (L := [[c0, c1, c2, c3, c4], [d0, d1, d2, d3, d4]]) n8 (FsAt.two (f37.mono fun b hb => by simp only [fresh] at hb ⊢; omega) rfl (f7.mono fun b hb => by simp only [fresh] at hb ⊢; omega) rfl) (by omega) (by simp)
   refine AJ ⟨fun W => Keep [E.s, w5.heap.size] w8 W, fun W hW => n8.keep.any.trans hW (by simp), Keep.refl _ _, ?_⟩
   ((apply D_R rfl rfl; (intro W hW; refine AD rfl ?_; exact AJ ⟨rfl, rfl, rfl⟩)))
   refine D_E rfl ?_
   refine Ao rfl rfl rfl g8 (by simp) (fun w9 p9 => ?_)
   have b9 := b8.keep p9.keep (by simp <;> omega)
   have g9 := p9.blk
   have z9 := p9.size
   have f9 := (FAt.node q.op [] (n) 0 S8 F8).keep p9.keep (by intro b hb; simp at hb ⊢; omega)
   refine AJ ⟨fun W => W = w9, fun W hW => hW ▸ p9.keep.mono (by simp), rfl, ?_⟩
   refine A8 ?_
   repeat refine nx rfl ?_
   refine AA (AX rfl g9 rfl ?_)
   refine Bu rfl rfl f9 b9 rfl (fun w10 cs' e hcs' k10 z10 b10 => ?_)
   repeat refine nx rfl ?_
   refine A6 rfl rfl hcs' b10.cells ⟨((k17.ext n8.keep).trans p9.keep (by simp <;> omega)).trans k10 (by simp <;> omega), ⟨q.op, [], n, 0, [a1, a2]⟩, t7, Run.call r2 (r4.bind (r5.bind (Run.call r7 (Run.ret _ _)))), ((q7.ext n8.keep).keep p9.keep (by simp <;> omega)).keep k10 (by simp <;> omega), ?_⟩
   rw [← e]
   exact (f9.keep k10 (by intro b hb; simp at hb ⊢; omega)).mono (fun b hb => by simp only [fresh] at hb ⊢; omega)
 ·refine AA (AB rfl (A9 rfl ?_))
  repeat refine nx rfl ?_
  refine AA (AX rfl e5 rfl ?_)
  refine Bu rfl rfl f5 b5 rfl (fun w6 cs e hcs k6 z6 b6 => ?_)
  repeat refine nx rfl ?_
  refine A6 rfl rfl hcs b6.cells ⟨k15.trans k6 (by simp <;> omega), a1, _, Run.call r2 (r4.bind (Run.ret _ _)), h5.st.keep k6 (by simp <;> omega), ?_⟩
  rw [← e]
  exact (f5.keep k6 (by intro b hb; simp [fresh] at hb ⊢; omega)).mono (fun b hb => by simp only [fresh] at hb ⊢; omega)
theorem chainP_and : ChainP [38] (body .untilN) (body .andL) where
 done h := by
  rcases accepts_inv h with ⟨e, _⟩ | ⟨_, _, _⟩
  ·cases e
  ·exact h.bind (Run.ret _ _)
 more h h1 h2 := h.bind (Run.call h1 (Run.call h2 (Run.ret _ _)))
 err1 h h1 := h.bind (Run.callE h1)
 err2 h h1 h2 := h.bind (Run.call h1 (Run.callE h2))
theorem chainP_or : ChainP [124] (body .andN) (body .orL) where
 done h := by
  rcases accepts_inv h with ⟨e, _⟩ | ⟨_, _, _⟩
  ·cases e
  ·exact h.bind (Run.ret _ _)
 more h h1 h2 := h.bind (Run.call h1 (Run.call h2 (Run.ret _ _)))
 err1 h h1 := h.bind (Run.callE h1)
 err2 h h1 h2 := h.bind (Run.call h1 (Run.callE h2))
theorem and_ok (E : Env) (N : Nat) (hP : CW E N 158 (body .untilN)) : CW E N 144 (body .andN) := by
 intro w ts h hN
 have hsl := h.st.slt
 unfold PDo
 refine Ar Tryz.func144 rfl Tryz.ntmps144 (Nat.le_of_ble_eq_true rfl) (by kernel_rfl) ?_
 repeat refine nx rfl ?_
 refine AA ?_
 refine Ay (fun w1 n1 => ?_)
 have b1 : Blk w1 w.heap.size 24 Cn := n1.blk
 have z1 := n1.size
 have h1 := h.ext n1.keep
 have k1 : Keep [E.s] w w1 := n1.keep.any
 repeat refine nx rfl ?_
 refine AA (AQ rfl (AQ rfl (BH rfl rfl ?_)))
 refine Aa (chain_ok E N 158 [38] (body .untilN) (body .andL) chainP_and hP w1 ts h1 hN) rfl ?_ ?_
 rotate_left
 ·rintro ch wq ⟨kq, lq, rq, rfl⟩
  repeat refine nx rfl ?_
  refine AY ⟨k1.trans kq (by simp), lq, ?_, rfl⟩
  rcases rq.bind_inv with ⟨a, l1, g1, g2⟩ | ⟨e, g1, g2⟩
  ·rcases g2.bind_inv with ⟨l, l2, g3, g4⟩ | ⟨e, g3, g4⟩
   ·cases g4.det (Run.ret _ _)
   ·cases g4; exact Run.call g1 (Run.callE g3)
  ·cases g2; exact Run.callE g1
 rintro v w2 ⟨k2, l, t2, r2, q2, sa, sc, L, rfl, hne, S2, F2⟩
 have h2 := h1.next k2 q2
 have b2 := b1.keep k2 (by simp <;> omega)
 have k12 := k1.trans k2 (by simp)
 have z2 := k2.size
 refine AS (node_ok w2 5 (fresh w1) sa sc L l S2 F2 hne) rfl ?_
 rintro v w3 ⟨k3, f3⟩
 have b3 := b2.keep k3 (by simp)
 refine Bu rfl rfl f3 b3 rfl (fun w4 cs e hcs k4 z4 b4 => ?_)
 repeat refine nx rfl ?_
 refine A6 rfl rfl hcs b4.cells ⟨(k12.ext k3).trans k4 (by simp <;> omega), nodeF 5 l, t2, ?_, (q2.ext k3).keep k4 (by simp <;> omega), ?_⟩
 ·rcases r2.bind_inv with ⟨a, l1, g1, g2⟩ | ⟨e, g1, g2⟩
  ·rcases g2.bind_inv with ⟨l, l2, g3, g4⟩ | ⟨e, g3, g4⟩
   ·cases g4.det (Run.ret _ _); exact Run.call g1 (Run.call g3 (Run.ret _ _))
   ·cases g4
  ·cases g2
 ·rw [← e]
  exact (f3.keep k4 (by intro b hb; simp [fresh] at hb ⊢; omega)).mono (fun b hb => by simp only [fresh] at hb ⊢; omega)
theorem or_ok (E : Env) (N : Nat) (hP : CW E N 144 (body .andN)) : CW E N 105 (body .orN) := by
 intro w ts h hN
 have hsl := h.st.slt
 unfold PDo
 refine Ar Tryz.func105 rfl Tryz.ntmps105 (Nat.le_of_ble_eq_true rfl) (by kernel_rfl) ?_
 repeat refine nx rfl ?_
 refine AA ?_
 refine Ay (fun w1 n1 => ?_)
 have b1 : Blk w1 w.heap.size 24 Cn := n1.blk
 have z1 := n1.size
 have h1 := h.ext n1.keep
 have k1 : Keep [E.s] w w1 := n1.keep.any
 repeat refine nx rfl ?_
 refine AA (AQ rfl (AQ rfl (BH rfl rfl ?_)))
 refine Aa (chain_ok E N 144 [124] (body .andN) (body .orL) chainP_or hP w1 ts h1 hN) rfl ?_ ?_
 rotate_left
 ·rintro ch wq ⟨kq, lq, rq, rfl⟩
  repeat refine nx rfl ?_
  refine AY ⟨k1.trans kq (by simp), lq, ?_, rfl⟩
  rcases rq.bind_inv with ⟨a, l1, g1, g2⟩ | ⟨e, g1, g2⟩
  ·rcases g2.bind_inv with ⟨l, l2, g3, g4⟩ | ⟨e, g3, g4⟩
   ·cases g4.det (Run.ret _ _)
   ·cases g4; exact Run.call g1 (Run.callE g3)
  ·cases g2; exact Run.callE g1
 rintro v w2 ⟨k2, l, t2, r2, q2, sa, sc, L, rfl, hne, S2, F2⟩
 have h2 := h1.next k2 q2
 have b2 := b1.keep k2 (by simp <;> omega)
 have k12 := k1.trans k2 (by simp)
 have z2 := k2.size
 refine AS (node_ok w2 6 (fresh w1) sa sc L l S2 F2 hne) rfl ?_
 rintro v w3 ⟨k3, f3⟩
 have b3 := b2.keep k3 (by simp)
 refine Bu rfl rfl f3 b3 rfl (fun w4 cs e hcs k4 z4 b4 => ?_)
 repeat refine nx rfl ?_
 refine A6 rfl rfl hcs b4.cells ⟨(k12.ext k3).trans k4 (by simp <;> omega), nodeF 6 l, t2, ?_, (q2.ext k3).keep k4 (by simp <;> omega), ?_⟩
 ·rcases r2.bind_inv with ⟨a, l1, g1, g2⟩ | ⟨e, g1, g2⟩
  ·rcases g2.bind_inv with ⟨l, l2, g3, g4⟩ | ⟨e, g3, g4⟩
   ·cases g4.det (Run.ret _ _); exact Run.call g1 (Run.call g3 (Run.ret _ _))
   ·cases g4
  ·cases g2
 ·rw [← e]
  exact (f3.keep k4 (by intro b hb; simp [fresh] at hb ⊢; omega)).mono (fun b hb => by simp only [fresh] at hb ⊢; omega)
theorem formula_ok (E : Env) (N : Nat) (hP : CW E N 105 (body .orN)) (hU : ∀ M, M < N → CW E M 65 (body .formula)) : CW E N 65 (body .formula) := by
 intro w ts h hN
 have hsl := h.st.slt
 unfold PDo
 refine Ar Tryz.func65 rfl Tryz.ntmps65 (Nat.le_of_ble_eq_true rfl) (by kernel_rfl) ?_
 repeat refine nx rfl ?_
 refine AA ?_
 refine Ay (fun w1 n1 => ?_)
 have b1 : Blk w1 w.heap.size 24 Cn := n1.blk
 have z1 := n1.size
 have h1 := h.ext n1.keep
 have k1 : Keep [E.s] w w1 := n1.keep.any
 repeat refine nx rfl ?_
 refine AA (AQ rfl ?_)
 refine Aa (hP w1 ts h1 hN) rfl ?_ ?_
 rotate_left
 ·rintro ch wq ⟨kq, lq, rq, rfl⟩
  repeat refine nx rfl ?_
  exact AY ⟨k1.trans kq (by simp), lq, Run.callE rq, rfl⟩
 rintro v w2 ⟨k2, a1, t2, r2, q2, f2⟩
 have h2 := h1.next k2 q2
 have b2 := b1.keep k2 (by simp <;> omega)
 have k12 := k1.trans k2 (by simp)
 have z2 := k2.size
 have l2 : t2.length ≤ ts.length := (show t2 <:+ ts from r2.suffix).length_le
 replace f2 := f2.lt
 obtain ⟨cs, rfl, hcs, hone⟩ := f2.cells
 obtain ⟨c0, c1, c2, c3, c4, rfl⟩ := Ch hcs
 refine BE (cs := [c0, c1, c2, c3, c4]) rfl rfl (by rfl) hone (fun w3 n3 => ?_)
 have h3 := h2.ext n3.keep
 have b3 := b2.keep n3.keep (by simp)
 have z3 := n3.size
 have e3 := n3.blk
 have f3 := f2.new n3
 have k13 := k12.ext n3.keep
 repeat refine nx rfl ?_
 refine AA (AQ rfl ?_)
 refine AS (B9 E w3 t2 [45, 62] h3.st) rfl ?_
 rintro _ w4 ⟨k4, b, t4, rfl, r4, q4⟩
 have h4 := h3.next k4 q4
 have b4 := b3.keep k4 (by simp <;> omega)
 have e4 := e3.keep k4 (by simp <;> omega)
 have f4 := f3.keep k4 (by intro b hb; simp [fresh] at hb ⊢; omega)
 have k14 := k13.trans k4 (by simp)
 have z4 := k4.size
 refine A9 rfl (AJ ?_)
 rcases accepts_inv r4 with ⟨rfl, hl4, _, _⟩ | ⟨rfl, rfl, _⟩
 ·repeat first | refine nx rfl ?_ | refine nf rfl ?_
  refine B3 (.read 0 (.read 1 (.alt 2 (.alt 3 (.read 4 (.alt 5 .done .stop)) .stop) .stop))) BP (by kernel_rfl) (by repeat (first | exact BW | refine BI ?_)) (fun wd kd ed => ⟨fun W => Keep [E.s, w.heap.size] wd W, ?_, ?_⟩)
  ·exact Keep.refl _ _
  have hd := h4.ext kd
  have bd := b4.keep kd (by simp)
  have ed3 := e4.keep kd (by simp)
  have fd3 := f4.ext kd
  have zd : wd.heap.size = w4.heap.size := by rw [ed]
  have fc : ∀ W, Keep [E.s, w.heap.size] wd W → Cells W w2.heap.size 0 [c0, c1, c2, c3, c4] := fun W hW => (ed3.keep hW (by simp <;> omega)).cells
  ((apply D_R rfl rfl; (intro W hW; refine Ac rfl (by rfl) (fc W hW) ?_; exact Z3)) <;> refine D_R rfl rfl (fun W hW => AQ rfl Z3) ?_)
  refine D_E rfl ?_
  refine Aa (hU t4.length (by omega) wd t4 hd (Nat.le_refl _)) rfl ?_ ?_
  rotate_left
  ·rintro ch wq ⟨kq, lq, rq, rfl⟩
   repeat refine nx rfl ?_
   exact AY ⟨(k14.ext kd).trans kq (by simp), lq, Run.call r2 (r4.bind (Run.callE rq)), rfl⟩
  rintro v w7 ⟨k7, a2, t7, r7, q7, f7⟩
  have b7 := bd.keep k7 (by simp <;> omega)
  have f37 := fd3.keep k7 (by intro b hb; simp [fresh] at hb ⊢; omega)
  have k17 := (k14.ext kd).trans k7 (by simp)
  have z7 := k7.size
  obtain ⟨ds, rfl, hds, hone2⟩ := f7.cells
  obtain ⟨d0, d1, d2, d3, d4, rfl⟩ := Ch hds
  refine AJ ⟨fun W => Keep [E.s, w.heap.size] w7 W, fun W hW => (k7.mono (by simp)).trans hW (by simp), Keep.refl _ _, ?_⟩
  refine D_E rfl ?_
  refine AV (out := [c0, c1, c2, c3, c4, d0, d1, d2, d3, d4]) rfl (by omega) (by rw [made10]; rfl) (fun w8 n8 => ?_)
  have z8 := n8.size
  have b8 := b7.keep n8.keep (by simp)
  obtain ⟨S8, F8⟩ := FsAt.fresh (ok := fun b => w.heap.size < b) (L := [[c0, c1, c2, c3, c4], [d0, d1, d2, d3, d4]]) n8 (FsAt.two (f37.mono fun b hb => by simp only [fresh] at hb ⊢; omega) rfl (f7.mono fun b hb => by simp only [fresh] at hb ⊢; omega) rfl) (by omega) (by simp)
  refine AJ ⟨fun W => Keep [E.s, w.heap.size] w8 W, fun W hW => n8.keep.any.trans hW (by simp), Keep.refl _ _, ?_⟩
  have f8 := FAt.node 7 [] 0 0 S8 F8
  ((apply D_R rfl rfl; (intro W hW; refine Ad (by rfl) (by rfl) ?_; exact AJ ⟨rfl, rfl, rfl⟩)))
  refine D_E rfl ?_
  refine Bu rfl rfl f8 b8 rfl (fun w10 cs' e hcs' k10 z10 b10 => ?_)
  refine AJ ⟨fun W => W = w10, fun W hW => hW ▸ k10.mono (by simp), rfl, ?_⟩
  refine A8 ?_
  repeat refine nx rfl ?_
  refine A6 rfl rfl hcs' b10.cells ⟨(k17.ext n8.keep).trans k10 (by simp <;> omega), ⟨7, [], 0, 0, [a1, a2]⟩, t7, Run.call r2 (r4.bind (Run.call r7 (Run.ret _ _))), (q7.ext n8.keep).keep k10 (by simp <;> omega), ?_⟩
  rw [← e]
  exact (f8.keep k10 (by intro b hb; simp at hb ⊢; omega)).mono (fun b hb => by simp only [fresh] at hb ⊢; omega)
 ·repeat refine nx rfl ?_
  refine AA (AX rfl e4 rfl ?_)
  refine Bu rfl rfl f4 b4 rfl (fun w6 cs e hcs k6 z6 b6 => ?_)
  repeat refine nx rfl ?_
  refine A6 rfl rfl hcs b6.cells ⟨k14.trans k6 (by simp <;> omega), a1, _, Run.call r2 (r4.bind (Run.ret _ _)), h4.st.keep k6 (by simp <;> omega), ?_⟩
  rw [← e]
  exact (f4.keep k6 (by intro b hb; simp [fresh] at hb ⊢; omega)).mono (fun b hb => by simp only [fresh] at hb ⊢; omega)
theorem formulas_ok (E : Env) (N : Nat) : CW E N 173 (body .primary) ∧ CW E N 164 (body .unary) ∧ CW E N 158 (body .untilN) ∧ CW E N 65 (body .formula) := by
 induction N using Nat.strongRecOn with
 | _ N ih =>
  have h1 := primary_ok E N fun M hM => (ih M hM).2.2.2
  have h2 := unary_ok E N h1 fun M hM => (ih M hM).2.1
  have h3 := until_ok E N h2 fun M hM => (ih M hM).2.2.1
  exact ⟨h1, h2, h3, formula_ok E N (or_ok E N (and_ok E N h3)) fun M hM => (ih M hM).2.2.2⟩
end Go.Proofs.YtfcgdbmoncnibaaGreatDoor
namespace Go.Proofs.YtfcgdbmoncnibaaGreatDoor
open Go.RowKit
set_option linter.unusedVariables false
variable {mk : Prop} [MK mk]
structure Rp (α : Type) where
 fits : (Nat → Prop) → World → List Value → α → Prop
 size : Nat
 len : ∀ {ok w c a}, fits ok w c a → c.length = size
 one : ∀ {ok w c a}, fits ok w c a → oneC c
 keep : ∀ {ok X w w' c a}, fits ok w c a → Keep X w w' → (∀ b, ok b → b ∉ X) → fits ok w' c a
 lt : ∀ {ok w c a}, fits ok w c a → fits (fun b => ok b ∧ b < w.heap.size) w c a
 mono : ∀ {ok ok' : Nat → Prop} {w c a}, fits ok w c a → (∀ b, ok b → ok' b) → fits ok' w c a
theorem Rp.ext {α : Type} (R : Rp α) {ok : Nat → Prop} {w w' : World} {c : List Value} {a : α} (h : R.fits ok w c a) (k : Ext w w') : R.fits ok w' c a := R.keep h k fun _ _ => by simp
def RsAt {α : Type} (R : Rp α) (ok : Nat → Prop) (w : World) (L : List (List Value)) (l : List α) : Prop :=
 L.length = l.length ∧ ∀ (i : Nat) (c : List Value) (a : α), L[i]? = some c → l[i]? = some a → R.fits ok w c a
section
variable {α : Type} {R : Rp α} {ok : Nat → Prop} {w w' : World} {L : List (List Value)} {l : List α}
theorem RsAt.nil : RsAt R ok w [] [] := ⟨rfl, fun i c g h => by simp at h⟩
theorem RsAt.keep {X : List Nat} (h : RsAt R ok w L l) (k : Keep X w w') (hX : ∀ b, ok b → b ∉ X) : RsAt R ok w' L l := ⟨h.1, fun i c a hc ha => R.keep (h.2 i c a hc ha) k hX⟩
theorem RsAt.ext (h : RsAt R ok w L l) (k : Ext w w') : RsAt R ok w' L l := h.keep k fun _ _ => by simp
theorem RsAt.lt (h : RsAt R ok w L l) : RsAt R (fun b => ok b ∧ b < w.heap.size) w L l := ⟨h.1, fun i c a hc ha => R.lt (h.2 i c a hc ha)⟩
theorem RsAt.mono {ok' : Nat → Prop} (h : RsAt R ok w L l) (hk : ∀ b, ok b → ok' b) : RsAt R ok' w L l := ⟨h.1, fun i c a hc ha => R.mono (h.2 i c a hc ha) hk⟩
theorem RsAt.app {M : List (List Value)} {m : List α} (h : RsAt R ok w L l) (h' : RsAt R ok w M m) : RsAt R ok w (L ++ M) (l ++ m) := by
 refine ⟨by simp [h.1, h'.1], fun i c a hc ha => ?_⟩
 by_cases hi : i < L.length
 ·rw [List.getElem?_append_left hi] at hc
  rw [List.getElem?_append_left (by rw [← h.1]; exact hi)] at ha
  exact h.2 i c a hc ha
 ·rw [List.getElem?_append_right (by omega)] at hc
  rw [List.getElem?_append_right (by rw [← h.1]; omega), ← h.1] at ha
  exact h'.2 _ c a hc ha
theorem RsAt.one {c : List Value} {a : α} (h : R.fits ok w c a) : RsAt R ok w [c] [a] := by
 refine ⟨rfl, fun i d b hd hb => ?_⟩
 cases i with
 | zero => simp at hd hb; subst hd; subst hb; exact h
 | succ i => simp at hd
theorem RsAt.snoc {c : List Value} {a : α} (h : RsAt R ok w L l) (h' : R.fits ok w c a) : RsAt R ok w (L ++ [c]) (l ++ [a]) := h.app (RsAt.one h')
theorem RsAt.len (h : RsAt R ok w L l) : ∀ c ∈ L, c.length = R.size := by
 intro c hc
 obtain ⟨i, hi⟩ := List.getElem?_of_mem hc
 have hlt : i < l.length := by have := (List.getElem?_eq_some_iff.1 hi).1; rw [h.1] at this; exact this
 exact R.len (h.2 i c _ hi (List.getElem?_eq_getElem hlt))
theorem flat_len (n : Nat) : ∀ L : List (List Value), (∀ c ∈ L, c.length = n) → L.flatten.length = L.length * n
 | [], _ => by simp
 | c :: L, h => by
  have := h c (by simp)
  have ih := flat_len n L fun d hd => h d (by simp [hd])
  simp only [List.flatten_cons, List.length_append, List.length_cons, ih, Nat.succ_mul]; omega
theorem RsAt.flat (h : RsAt R ok w L l) : L.flatten.length = l.length * R.size := by rw [← h.1]; exact flat_len _ L h.len
theorem RsAt.oneC (h : RsAt R ok w L l) : oneC L.flatten := by
 intro u hu
 obtain ⟨c, hc, hu⟩ := List.mem_flatten.1 hu
 obtain ⟨i, hi⟩ := List.getElem?_of_mem hc
 have hlt : i < l.length := by have := (List.getElem?_eq_some_iff.1 hi).1; rw [h.1] at this; exact this
 exact R.one (h.2 i c _ hi (List.getElem?_eq_getElem hlt)) u hu
end
def SlAt {α : Type} (R : Rp α) (ok : Nat → Prop) (w : World) (v : Value) (l : List α) : Prop := ∃ a c L, v = .slice a l.length c ∧ Sl ok w v l.length L.flatten ∧ RsAt R ok w L l
def Cb (x : Sgn) : List Value := [AL x.name, .bool x.input, .int .i64 x.size]
def sgnR : Rp Sgn where
 fits _ _ c x := c = Cb x
 size := 3
 len h := by subst h; rfl
 one h := by subst h; intro u hu; simp [Cb] at hu; rcases hu with rfl | rfl | rfl <;> rfl
 keep h _ _ := h
 lt h := h
 mono h _ := h
def reqR : Rp Rqm where
 fits ok w c x := ∃ d : List Value, c = [AL x.part, AL x.name, .int .i64 x.kind] ++ d ∧ d.length = 5 ∧ FAt ok w (.agg d.toArray) x.formula
 size := 8
 len h := by obtain ⟨d, rfl, hd, _⟩ := h; simp [hd]
 one h := by
  obtain ⟨d, rfl, hd, hf⟩ := h
  obtain ⟨d', e, _, h1⟩ := hf.cells
  have : d = d' := by simpa using e
  subst this
  intro u hu
  rcases List.mem_append.1 hu with hu | hu
  ·simp at hu; rcases hu with rfl | rfl | rfl <;> rfl
  ·exact h1 u hu
 keep h k hX := by obtain ⟨d, e, hd, hf⟩ := h; exact ⟨d, e, hd, hf.keep k hX⟩
 lt h := by obtain ⟨d, e, hd, hf⟩ := h; exact ⟨d, e, hd, hf.lt⟩
 mono h hk := by obtain ⟨d, e, hd, hf⟩ := h; exact ⟨d, e, hd, hf.mono hk⟩
theorem Sl_ltR {α : Type} {R : Rp α} {ok : Nat → Prop} {w : World} {v : Value} {L : List (List Value)} {l : List α} (hR : 0 < R.size) (h : Sl ok w v l.length L.flatten) (h' : RsAt R ok w L l) : Sl (fun b => ok b ∧ b < w.heap.size) w v l.length L.flatten := by
 refine h.lt fun h0 e => ?_
 have := h'.flat
 rw [e] at this
 have h1 : 0 < l.length * R.size := Nat.mul_pos (by omega) hR
 simp at this; omega
def listR {α : Type} (R : Rp α) (hR : 0 < R.size) : Rp (List α) where
 fits ok w c l := ∃ v, c = [v] ∧ SlAt R ok w v l
 size := 1
 len h := by obtain ⟨v, rfl, _⟩ := h; rfl
 one h := by obtain ⟨v, rfl, a, c, L, rfl, _⟩ := h; intro u hu; simp at hu; subst hu; rfl
 keep h k hX := by obtain ⟨v, e, a, c, L, hv, h1, h2⟩ := h; exact ⟨v, e, a, c, L, hv, h1.keep k hX, h2.keep k hX⟩
 lt h := by obtain ⟨v, e, a, c, L, hv, h1, h2⟩ := h; exact ⟨v, e, a, c, L, hv, Sl_ltR hR h1 h2, h2.lt⟩
 mono h hk := by obtain ⟨v, e, a, c, L, hv, h1, h2⟩ := h; exact ⟨v, e, a, c, L, hv, h1.mono hk, h2.mono hk⟩
structure WhileP {α : Type} (pm : G Bool) (pi : G α) (pl : G (List α)) : Prop where
 done : ∀ {t}, Run pm t (.ok (false, t)) → Run pl t (.ok ([], t))
 more : ∀ {t t2 t3 a l}, Run pm t (.ok (true, t)) → Run pi t (.ok (a, t2)) → Run pl t2 (.ok (l, t3)) → Run pl t (.ok (a :: l, t3))
 err1 : ∀ {t e}, Run pm t (.ok (true, t)) → Run pi t (.error e) → Run pl t (.error e)
 err2 : ∀ {t t2 a e}, Run pm t (.ok (true, t)) → Run pi t (.ok (a, t2)) → Run pl t2 (.error e) → Run pl t (.error e)
 less : ∀ {t t2 a}, Run pm t (.ok (true, t)) → Run pi t (.ok (a, t2)) → t2.length < t.length
def prepL {α : Type} (l : List α) : Ans (List α) → Ans (List α)
 | .ok y => .ok (l ++ y.1, y.2)
 | .error e => .error e
theorem WhileP.step {α : Type} {pm : G Bool} {pi : G α} {pl : G (List α)} (h : WhileP pm pi pl) {t t2 : List Tok} {a : α} (h1 : Run pm t (.ok (true, t))) (h2 : Run pi t (.ok (a, t2))) {r : Ans (List α)} (hr : Run pl t2 r) : Run pl t (prepL [a] r) := by
 cases r with
 | ok y => exact h.more h1 h2 hr
 | error e => exact h.err2 h1 h2 hr
theorem prepL_app {α : Type} (l m : List α) (r : Ans (List α)) : prepL l (prepL m r) = prepL (l ++ m) r := by
 cases r <;> simp [prepL]
theorem prepL_nil {α : Type} (r : Ans (List α)) : prepL [] r = r := by cases r <;> simp [prepL]
def ItemR {α : Type} (R : Rp α) (val : List Value → Value) (E : Env) (N : Nat) (g : FuncId) (pi : G α) : Prop := ∀ (w : World) (ts : List Tok), PW w E ts → ts.length ≤ N → PDo E g [pt E.s] w pi ts (fun w' v a => ∃ c, v = val c ∧ R.fits (fresh w) w' c a)
def aggV (c : List Value) : Value := .agg c.toArray
def oneV (c : List Value) : Value := c.headD undef
def MoreOk (E : Env) (w0 : World) (g : FuncId) (v1 v2 : List Value) (pm : G Bool) : Prop := ∀ (w : World) (ts : List Tok), Keep [E.s] w0 w → PW w E ts → Fn Tryz.prog g (v1 ++ [] ++ v2) w (fun v w' => ∃ b, v = .bool b ∧ Run pm ts (.ok (b, ts)) ∧ w' = w)
theorem madeSgn : (madeCells (Value.agg #[AL [], .bool false, .int .i64 0]).cells (1 * 3)).toList = [AL [], .bool false, .int .i64 0] := by kernel_rfl
theorem madeReq : (madeCells (Value.agg #[AL [], AL [], .int .i64 0, .int .i64 0, AL [], .int .i64 0, .int .i64 0, .slice none 0 0]).cells (1 * 8)).toList = [AL [], AL [], .int .i64 0, .int .i64 0, AL [], .int .i64 0, .int .i64 0, .slice none 0 0] := by kernel_rfl
theorem madeSl : (madeCells (Value.slice none 0 0).cells (1 * 1)).toList = [.slice none 0 0] := by kernel_rfl
theorem cells3 {cs : List Value} (h : cs.length = 3) : ∃ c0 c1 c2, cs = [c0, c1, c2] := by
 match cs, h with
 | [c0, c1, c2], _ => exact ⟨_, _, _, rfl⟩
theorem cells8' {cs : List Value} (h : cs.length = 8) : ∃ c0 c1 c2 c3 c4 c5 c6 c7, cs = [c0, c1, c2, c3, c4, c5, c6, c7] := by
 match cs, h with
 | [c0, c1, c2, c3, c4, c5, c6, c7], _ => exact ⟨_, _, _, _, _, _, _, _, rfl⟩
theorem whileSgn_ok (E : Env) (N : Nat) (gm g : FuncId) [AT Tryz.prog gm] [AT Tryz.prog g] (v1 v2 : List Value) (pm : G Bool) (pi : G Sgn) (pl : G (List Sgn)) (hC : WhileP pm pi pl) (w : World) (ts : List Tok) (hM : MoreOk E w gm v1 v2 pm)
  (hI : ItemR sgnR aggV E N g pi) (h : PW w E ts) (hN : ts.length ≤ N) :
  PDo E 94 [.func (.func gm) v1.toArray v2.toArray, .func (.func g) #[pt E.s] #[]] w pl ts (fun w' v l => ∃ L, w'.ownsRow w.heap.size 72 3 v l.length L.flatten ∧ RsAt sgnR (fun b => fresh w b ∧ v.ownBlock ≠ some b) w' L l) := by
 have hsl := h.st.slt
 unfold PDo
 refine Ar Tryz.func94 rfl Tryz.ntmps94 (Nat.le_of_ble_eq_true rfl) (by kernel_rfl) ?_
 repeat refine nx rfl ?_
 refine AA (AC (Ae rfl ?_))
 repeat refine nx rfl ?_
 refine AA (AC (Ae rfl ?_))
 repeat refine nx rfl ?_
 refine BJ (α := Value × List (List Value) × List _ × List Tok) (fun x => [(0, .func (.func gm) v1.toArray v2.toArray), (1, .func (.func g) #[pt E.s] #[]), (5, x.1)])
  (fun x W => Keep [E.s] w W ∧ PW W E x.2.2.2 ∧ x.2.2.1.length + x.2.2.2.length ≤ ts.length ∧ x.2.2.2.length ≤ ts.length ∧ W.ownsRow w.heap.size 72 3 x.1 x.2.2.1.length x.2.1.flatten ∧ RsAt (sgnR) (fun b => fresh w b ∧ x.1.ownBlock ≠ some b) W x.2.1 x.2.2.1 ∧
   ∀ r, Run pl x.2.2.2 r → Run pl ts (prepL x.2.2.1 r))
  (fun x => x.2.2.2.length) (.slice none 0 0, [], [], ts) ⟨rfl, rfl, rfl, trivial⟩ ⟨Keep.refl _ _, h, by simp, Nat.le_refl _, ⟨by simp, .inl ⟨rfl, rfl⟩⟩, RsAt.nil, fun r hr => by rw [prepL_nil]; exact hr⟩ ?_
 rintro ⟨v, L, l, cur⟩ w3 f3 ⟨k3, h3, hcnt, hcur, o3, F3, hcont⟩
 simp only at k3 h3 hcur hcnt o3 F3 hcont ⊢
 repeat refine nx rfl ?_
 refine AA (Ct rfl ?_)
 refine B5 (v1 := v1) (v2 := v2) (vs := []) rfl (hM w3 cur k3 h3) rfl ?_
 rintro _ w4 ⟨b, rfl, r4, rfl⟩
 have hsg : ∀ g, v.ownBlock = some g → w.heap.size ≤ g ∧ g < w4.heap.size := fun g hg => BM o3 hg
 have z3 := k3.size
 refine AJ ?_
 cases b with
 | true =>
  repeat refine nx rfl ?_
  refine AA (Az (Ct rfl ?_))
  refine CQ (v1 := [pt E.s]) (v2 := []) (vs := []) rfl (hI w4 cur h3 (by omega)) rfl ?_ ?_
  rotate_left
  ·rintro ch w5 ⟨k5, l, r5, rfl⟩
   repeat refine nx rfl ?_
   exact AY ⟨k3.trans k5 (by simp), l, hcont _ (hC.err1 r4 r5), rfl⟩
  rintro u w5 ⟨k5, a, c2, r5, q5, c, rfl, f5⟩
  have h5 := h3.next k5 q5
  have hc2 := hC.less r4 r5
  have o5 := Ax o3 k5 (fun g hg => by have := hsg g hg; simp; omega)
  have F5 := F3.keep k5 (fun b hb => by have := hb.1; simp [fresh] at this ⊢; omega)
  have k35 := k3.trans k5 (by simp)
  have f5' := (sgnR).lt f5
  have z5 := k5.size
  have hclen := (sgnR).len f5
  have hcone := (sgnR).one f5
  obtain ⟨u0, u1, u2, hcx⟩ := cells3 hclen
  refine AV (out := c) rfl (by omega) (by rw [madeSgn, hcx]; rfl) (fun w6 n6 => ?_)
  have z6 := n6.size
  have o6 := n6.own (n := 1) (size := 3) hclen (by unfold maxLen; omega) (Nat.le_refl _)
  have hts2 := h.st.cnt
  refine Bl (ok := A0) (v := v) (sv := .slice (some ⟨w5.heap.size, 0, none⟩) 1 1) rfl rfl (BX o5 n6.keep) (A3 o6 fun _ _ => trivial) (by omega) rfl hclen hcone (by omega) (by omega) (by omega) (fun v7 w7 a7 => ?_)
  refine AC (Az ?_)
  repeat refine nx rfl ?_
  have o7 := a7.own
  have h7 := (h5.ext n6.keep).keep a7.keep (fun x hx => by have := hsg x (Option.mem_toList.1 hx); omega)
  have hv7 : ∀ b, v7.ownBlock = some b → v.ownBlock = some b ∨ b = w6.heap.size := fun b hb => by
   rcases a7.blk with e | e
   ·exact .inl (by rw [← e]; exact hb)
   ·rw [e] at hb; exact .inr (Option.some.inj hb).symm
  have F7 : RsAt (sgnR) (fun b => fresh w b ∧ v7.ownBlock ≠ some b) w7 L l := by
   refine ((F5.lt.ext n6.keep).keep a7.keep ?_).mono ?_
   ·rintro b ⟨⟨_, hb⟩, _⟩ hx; exact hb (Option.mem_toList.1 hx)
   ·rintro b ⟨⟨h1, hb⟩, hlt⟩
    refine ⟨h1, fun e => ?_⟩
    rcases hv7 b e with e | e
    ·exact hb e
    ·omega
  have f7 : (sgnR).fits (fun b => fresh w b ∧ v7.ownBlock ≠ some b) w7 c a := by
   refine (sgnR).mono ((sgnR).keep ((sgnR).ext f5' n6.keep) a7.keep ?_) ?_
   ·rintro b ⟨hb, hlt⟩ hx
    have := hsg b (Option.mem_toList.1 hx)
    simp [fresh] at hb; omega
   ·rintro b ⟨hb, hlt⟩
    simp only [fresh] at hb ⊢
    refine ⟨by omega, fun e => ?_⟩
    rcases hv7 b e with e | e
    ·have := hsg b e; omega
    ·omega
  refine ⟨(v7, L ++ [c], l ++ [a], c2), ⟨rfl, ⟨rfl, rfl, rfl, trivial⟩, ⟨?_, h7, by simp only [List.length_append, List.length_cons, List.length_nil] at hcnt ⊢; omega, by simp only; omega, ?_, F7.snoc f7, fun r hr => ?_⟩⟩, by simp only; omega⟩
  ·exact (k35.ext n6.keep).trans a7.keep (fun x hx hlt => by have := hsg x (Option.mem_toList.1 hx); omega)
  ·have e1 : (L ++ [c]).flatten = L.flatten ++ c := by simp
   simp only
   rw [e1, List.length_append]
   exact o7
  ·rw [← prepL_app]
   exact hcont _ (hC.step r4 r5 hr)
 | false =>
  repeat first | refine nx rfl ?_ | refine nf rfl ?_
  refine AA (Az (AC (Az (AJ ?_))))
  have hS := A3 (ok := fresh w) o3 (fun g hg => (hsg g hg).1)
  obtain ⟨sa, sc, rfl, _⟩ := id hS
  repeat refine nx rfl ?_
  have e2 := hcont _ (hC.done r4)
  simp only [prepL, List.append_nil] at e2
  exact AO rfl ⟨k3, l, cur, e2, h3.st, L, o3, F3⟩
theorem whileReq_ok (E : Env) (N : Nat) (gm g : FuncId) [AT Tryz.prog gm] [AT Tryz.prog g] (v1 v2 : List Value) (pm : G Bool) (pi : G Rqm) (pl : G (List Rqm)) (hC : WhileP pm pi pl) (w : World) (ts : List Tok) (hM : MoreOk E w gm v1 v2 pm)
  (hI : ItemR reqR aggV E N g pi) (h : PW w E ts) (hN : ts.length ≤ N) :
  PDo E 130 [.func (.func gm) v1.toArray v2.toArray, .func (.func g) #[pt E.s] #[]] w pl ts (fun w' v l => ∃ L, w'.ownsRow w.heap.size 30 8 v l.length L.flatten ∧ RsAt reqR (fun b => fresh w b ∧ v.ownBlock ≠ some b) w' L l) := by
 have hsl := h.st.slt
 unfold PDo
 refine Ar Tryz.func130 rfl Tryz.ntmps130 (Nat.le_of_ble_eq_true rfl) (by kernel_rfl) ?_
 repeat refine nx rfl ?_
 refine AA (AC (Ae rfl ?_))
 repeat refine nx rfl ?_
 refine AA (AC (Ae rfl ?_))
 repeat refine nx rfl ?_
 refine BJ (α := Value × List (List Value) × List _ × List Tok) (fun x => [(0, .func (.func gm) v1.toArray v2.toArray), (1, .func (.func g) #[pt E.s] #[]), (5, x.1)])
  (fun x W => Keep [E.s] w W ∧ PW W E x.2.2.2 ∧ x.2.2.1.length + x.2.2.2.length ≤ ts.length ∧ x.2.2.2.length ≤ ts.length ∧ W.ownsRow w.heap.size 30 8 x.1 x.2.2.1.length x.2.1.flatten ∧ RsAt (reqR) (fun b => fresh w b ∧ x.1.ownBlock ≠ some b) W x.2.1 x.2.2.1 ∧
   ∀ r, Run pl x.2.2.2 r → Run pl ts (prepL x.2.2.1 r))
  (fun x => x.2.2.2.length) (.slice none 0 0, [], [], ts) ⟨rfl, rfl, rfl, trivial⟩ ⟨Keep.refl _ _, h, by simp, Nat.le_refl _, ⟨by simp, .inl ⟨rfl, rfl⟩⟩, RsAt.nil, fun r hr => by rw [prepL_nil]; exact hr⟩ ?_
 rintro ⟨v, L, l, cur⟩ w3 f3 ⟨k3, h3, hcnt, hcur, o3, F3, hcont⟩
 simp only at k3 h3 hcur hcnt o3 F3 hcont ⊢
 repeat refine nx rfl ?_
 refine AA (Ct rfl ?_)
 refine B5 (v1 := v1) (v2 := v2) (vs := []) rfl (hM w3 cur k3 h3) rfl ?_
 rintro _ w4 ⟨b, rfl, r4, rfl⟩
 have hsg : ∀ g, v.ownBlock = some g → w.heap.size ≤ g ∧ g < w4.heap.size := fun g hg => BM o3 hg
 have z3 := k3.size
 refine AJ ?_
 cases b with
 | true =>
  repeat refine nx rfl ?_
  refine AA (Az (Ct rfl ?_))
  refine CQ (v1 := [pt E.s]) (v2 := []) (vs := []) rfl (hI w4 cur h3 (by omega)) rfl ?_ ?_
  rotate_left
  ·rintro ch w5 ⟨k5, l, r5, rfl⟩
   repeat refine nx rfl ?_
   exact AY ⟨k3.trans k5 (by simp), l, hcont _ (hC.err1 r4 r5), rfl⟩
  rintro u w5 ⟨k5, a, c2, r5, q5, c, rfl, f5⟩
  have h5 := h3.next k5 q5
  have hc2 := hC.less r4 r5
  have o5 := Ax o3 k5 (fun g hg => by have := hsg g hg; simp; omega)
  have F5 := F3.keep k5 (fun b hb => by have := hb.1; simp [fresh] at this ⊢; omega)
  have k35 := k3.trans k5 (by simp)
  have f5' := (reqR).lt f5
  have z5 := k5.size
  have hclen := (reqR).len f5
  have hcone := (reqR).one f5
  obtain ⟨u0, u1, u2, u3, u4, u5, u6, u7, hcx⟩ := cells8' hclen
  refine AV (out := c) rfl (by omega) (by rw [madeReq, hcx]; rfl) (fun w6 n6 => ?_)
  have z6 := n6.size
  have o6 := n6.own (n := 1) (size := 8) hclen (by unfold maxLen; omega) (Nat.le_refl _)
  have hts2 := h.st.cnt
  refine Bl (ok := A0) (v := v) (sv := .slice (some ⟨w5.heap.size, 0, none⟩) 1 1) rfl rfl (BX o5 n6.keep) (A3 o6 fun _ _ => trivial) (by omega) rfl hclen hcone (by omega) (by omega) (by omega) (fun v7 w7 a7 => ?_)
  refine AC (Az ?_)
  repeat refine nx rfl ?_
  have o7 := a7.own
  have h7 := (h5.ext n6.keep).keep a7.keep (fun x hx => by have := hsg x (Option.mem_toList.1 hx); omega)
  have hv7 : ∀ b, v7.ownBlock = some b → v.ownBlock = some b ∨ b = w6.heap.size := fun b hb => by
   rcases a7.blk with e | e
   ·exact .inl (by rw [← e]; exact hb)
   ·rw [e] at hb; exact .inr (Option.some.inj hb).symm
  have F7 : RsAt (reqR) (fun b => fresh w b ∧ v7.ownBlock ≠ some b) w7 L l := by
   refine ((F5.lt.ext n6.keep).keep a7.keep ?_).mono ?_
   ·rintro b ⟨⟨_, hb⟩, _⟩ hx; exact hb (Option.mem_toList.1 hx)
   ·rintro b ⟨⟨h1, hb⟩, hlt⟩
    refine ⟨h1, fun e => ?_⟩
    rcases hv7 b e with e | e
    ·exact hb e
    ·omega
  have f7 : (reqR).fits (fun b => fresh w b ∧ v7.ownBlock ≠ some b) w7 c a := by
   refine (reqR).mono ((reqR).keep ((reqR).ext f5' n6.keep) a7.keep ?_) ?_
   ·rintro b ⟨hb, hlt⟩ hx
    have := hsg b (Option.mem_toList.1 hx)
    simp [fresh] at hb; omega
   ·rintro b ⟨hb, hlt⟩
    simp only [fresh] at hb ⊢
    refine ⟨by omega, fun e => ?_⟩
    rcases hv7 b e with e | e
    ·have := hsg b e; omega
    ·omega
  refine ⟨(v7, L ++ [c], l ++ [a], c2), ⟨rfl, ⟨rfl, rfl, rfl, trivial⟩, ⟨?_, h7, by simp only [List.length_append, List.length_cons, List.length_nil] at hcnt ⊢; omega, by simp only; omega, ?_, F7.snoc f7, fun r hr => ?_⟩⟩, by simp only; omega⟩
  ·exact (k35.ext n6.keep).trans a7.keep (fun x hx hlt => by have := hsg x (Option.mem_toList.1 hx); omega)
  ·have e1 : (L ++ [c]).flatten = L.flatten ++ c := by simp
   simp only
   rw [e1, List.length_append]
   exact o7
  ·rw [← prepL_app]
   exact hcont _ (hC.step r4 r5 hr)
 | false =>
  repeat first | refine nx rfl ?_ | refine nf rfl ?_
  refine AA (Az (AC (Az (AJ ?_))))
  have hS := A3 (ok := fresh w) o3 (fun g hg => (hsg g hg).1)
  obtain ⟨sa, sc, rfl, _⟩ := id hS
  repeat refine nx rfl ?_
  have e2 := hcont _ (hC.done r4)
  simp only [prepL, List.append_nil] at e2
  exact AO rfl ⟨k3, l, cur, e2, h3.st, L, o3, F3⟩
def reqsR : Rp (List Rqm) := listR reqR (by show 0 < 8; decide)
theorem reqs_form {ok : Nat → Prop} {w : World} {c : List Value} {a : List Rqm} (h : reqsR.fits ok w c a) : ∃ sa sc, c = [.slice sa a.length sc] := by
 obtain ⟨v', e1, sa', sc', _, e2, _⟩ := h
 exact ⟨sa', sc', by rw [e1, e2]⟩
theorem whileReqs_ok (E : Env) (N : Nat) (gm g : FuncId) [AT Tryz.prog gm] [AT Tryz.prog g] (v1 v2 : List Value) (pm : G Bool) (pi : G (List Rqm)) (pl : G (List (List Rqm))) (hC : WhileP pm pi pl) (w : World) (ts : List Tok) (hM : MoreOk E w gm v1 v2 pm)
  (hI : ItemR reqsR oneV E N g pi) (h : PW w E ts) (hN : ts.length ≤ N) :
  PDo E 96 [.func (.func gm) v1.toArray v2.toArray, .func (.func g) #[pt E.s] #[]] w pl ts (fun w' v l => ∃ L, w'.ownsRow w.heap.size 26 1 v l.length L.flatten ∧ RsAt reqsR (fun b => fresh w b ∧ v.ownBlock ≠ some b) w' L l) := by
 have hsl := h.st.slt
 unfold PDo
 refine Ar Tryz.func96 rfl Tryz.ntmps96 (Nat.le_of_ble_eq_true rfl) (by kernel_rfl) ?_
 repeat refine nx rfl ?_
 refine AA (AC (Ae rfl ?_))
 repeat refine nx rfl ?_
 refine AA (AC (Ae rfl ?_))
 repeat refine nx rfl ?_
 refine BJ (α := Value × List (List Value) × List _ × List Tok) (fun x => [(0, .func (.func gm) v1.toArray v2.toArray), (1, .func (.func g) #[pt E.s] #[]), (5, x.1)])
  (fun x W => Keep [E.s] w W ∧ PW W E x.2.2.2 ∧ x.2.2.1.length + x.2.2.2.length ≤ ts.length ∧ x.2.2.2.length ≤ ts.length ∧ W.ownsRow w.heap.size 26 1 x.1 x.2.2.1.length x.2.1.flatten ∧ RsAt (reqsR) (fun b => fresh w b ∧ x.1.ownBlock ≠ some b) W x.2.1 x.2.2.1 ∧
   ∀ r, Run pl x.2.2.2 r → Run pl ts (prepL x.2.2.1 r))
  (fun x => x.2.2.2.length) (.slice none 0 0, [], [], ts) ⟨rfl, rfl, rfl, trivial⟩ ⟨Keep.refl _ _, h, by simp, Nat.le_refl _, ⟨by simp, .inl ⟨rfl, rfl⟩⟩, RsAt.nil, fun r hr => by rw [prepL_nil]; exact hr⟩ ?_
 rintro ⟨v, L, l, cur⟩ w3 f3 ⟨k3, h3, hcnt, hcur, o3, F3, hcont⟩
 simp only at k3 h3 hcur hcnt o3 F3 hcont ⊢
 repeat refine nx rfl ?_
 refine AA (Ct rfl ?_)
 refine B5 (v1 := v1) (v2 := v2) (vs := []) rfl (hM w3 cur k3 h3) rfl ?_
 rintro _ w4 ⟨b, rfl, r4, rfl⟩
 have hsg : ∀ g, v.ownBlock = some g → w.heap.size ≤ g ∧ g < w4.heap.size := fun g hg => BM o3 hg
 have z3 := k3.size
 refine AJ ?_
 cases b with
 | true =>
  repeat refine nx rfl ?_
  refine AA (Az (Ct rfl ?_))
  refine CQ (v1 := [pt E.s]) (v2 := []) (vs := []) rfl (hI w4 cur h3 (by omega)) rfl ?_ ?_
  rotate_left
  ·rintro ch w5 ⟨k5, l, r5, rfl⟩
   repeat refine nx rfl ?_
   exact AY ⟨k3.trans k5 (by simp), l, hcont _ (hC.err1 r4 r5), rfl⟩
  rintro u w5 ⟨k5, a, c2, r5, q5, c, rfl, f5⟩
  have h5 := h3.next k5 q5
  have hc2 := hC.less r4 r5
  have o5 := Ax o3 k5 (fun g hg => by have := hsg g hg; simp; omega)
  have F5 := F3.keep k5 (fun b hb => by have := hb.1; simp [fresh] at this ⊢; omega)
  have k35 := k3.trans k5 (by simp)
  have f5' := (reqsR).lt f5
  have z5 := k5.size
  have hclen := (reqsR).len f5
  have hcone := (reqsR).one f5
  obtain ⟨sa', sc', hcx⟩ := reqs_form f5
  refine AV (out := c) rfl (by omega) (by rw [madeSl, hcx]; rfl) (fun w6 n6 => ?_)
  have z6 := n6.size
  have o6 := n6.own (n := 1) (size := 1) hclen (by unfold maxLen; omega) (Nat.le_refl _)
  have hts2 := h.st.cnt
  refine Bl (ok := A0) (v := v) (sv := .slice (some ⟨w5.heap.size, 0, none⟩) 1 1) rfl rfl (BX o5 n6.keep) (A3 o6 fun _ _ => trivial) (by omega) rfl hclen hcone (by omega) (by omega) (by omega) (fun v7 w7 a7 => ?_)
  refine AC (Az ?_)
  repeat refine nx rfl ?_
  have o7 := a7.own
  have h7 := (h5.ext n6.keep).keep a7.keep (fun x hx => by have := hsg x (Option.mem_toList.1 hx); omega)
  have hv7 : ∀ b, v7.ownBlock = some b → v.ownBlock = some b ∨ b = w6.heap.size := fun b hb => by
   rcases a7.blk with e | e
   ·exact .inl (by rw [← e]; exact hb)
   ·rw [e] at hb; exact .inr (Option.some.inj hb).symm
  have F7 : RsAt (reqsR) (fun b => fresh w b ∧ v7.ownBlock ≠ some b) w7 L l := by
   refine ((F5.lt.ext n6.keep).keep a7.keep ?_).mono ?_
   ·rintro b ⟨⟨_, hb⟩, _⟩ hx; exact hb (Option.mem_toList.1 hx)
   ·rintro b ⟨⟨h1, hb⟩, hlt⟩
    refine ⟨h1, fun e => ?_⟩
    rcases hv7 b e with e | e
    ·exact hb e
    ·omega
  have f7 : (reqsR).fits (fun b => fresh w b ∧ v7.ownBlock ≠ some b) w7 c a := by
   refine (reqsR).mono ((reqsR).keep ((reqsR).ext f5' n6.keep) a7.keep ?_) ?_
   ·rintro b ⟨hb, hlt⟩ hx
    have := hsg b (Option.mem_toList.1 hx)
    simp [fresh] at hb; omega
   ·rintro b ⟨hb, hlt⟩
    simp only [fresh] at hb ⊢
    refine ⟨by omega, fun e => ?_⟩
    rcases hv7 b e with e | e
    ·have := hsg b e; omega
    ·omega
  refine ⟨(v7, L ++ [c], l ++ [a], c2), ⟨rfl, ⟨rfl, rfl, rfl, trivial⟩, ⟨?_, h7, by simp only [List.length_append, List.length_cons, List.length_nil] at hcnt ⊢; omega, by simp only; omega, ?_, F7.snoc f7, fun r hr => ?_⟩⟩, by simp only; omega⟩
  ·exact (k35.ext n6.keep).trans a7.keep (fun x hx hlt => by have := hsg x (Option.mem_toList.1 hx); omega)
  ·have e1 : (L ++ [c]).flatten = L.flatten ++ c := by simp
   simp only
   rw [e1, List.length_append]
   exact o7
  ·rw [← prepL_app]
   exact hcont _ (hC.step r4 r5 hr)
 | false =>
  repeat first | refine nx rfl ?_ | refine nf rfl ?_
  refine AA (Az (AC (Az (AJ ?_))))
  have hS := A3 (ok := fresh w) o3 (fun g hg => (hsg g hg).1)
  obtain ⟨sa, sc, rfl, _⟩ := id hS
  repeat refine nx rfl ?_
  have e2 := hcont _ (hC.done r4)
  simp only [prepL, List.append_nil] at e2
  exact AO rfl ⟨k3, l, cur, e2, h3.st, L, o3, F3⟩
end Go.Proofs.YtfcgdbmoncnibaaGreatDoor
namespace Go.Proofs.YtfcgdbmoncnibaaGreatDoor
open Go.RowKit
variable {mk : Prop} [MK mk]
attribute [local semireducible] WC AW B6 BZ B8 Cw DY By
variable {P : Program} {all : Array Oper}
theorem stepP_mono {o : Oper} {f : Fr} {ds : DS} {w : World} {K K' : Value → DS → World → Prop} {Z Z' : List PanicEntry → World → Prop} (hK : ∀ v ds w, K v ds w → K' v ds w) (hZ : ∀ c w, Z c w → Z' c w) (h : By P o f ds w K Z) : By P o f ds w K' Z' := by
 unfold By at h ⊢
 revert h
 generalize (execOp (ev f) o).run P w = res
 intro h
 cases res with
 | halt x w' => cases x <;> first | exact h.elim | exact hZ _ _ h
 | ok m w' =>
  cases m with
  | value v => exact hK _ _ _ h
  | skip => exact hK _ _ _ h
  | defer d => exact hK _ _ _ h
  | enter g args =>
   refine Calls.mono h fun e w'' he => ?_
   cases e with
   | returned v => exact hK _ _ _ he
   | panicked ch => exact hZ _ _ he
   | outgrown => exact he
  | round l g tmps assign body =>
   refine RoundIn.mono h fun e w'' he => ?_
   cases e with
   | returned v => exact hK _ _ _ he
   | panicked ch => exact hZ _ _ he
   | outgrown => exact he
  | _ => exact h.elim
theorem WOps_mono {Z Z' : Fr → DS → List PanicEntry → World → Prop} {K K' : Fr → DS → World → Prop} (hK : ∀ f ds w, K f ds w → K' f ds w) (hZ : ∀ f ds c w, Z f ds c w → Z' f ds c w) : ∀ (l : List Oper) (f : Fr) (ds : DS) (w : World), AW P all Z K l f ds w → AW P all Z' K' l f ds w
 | [], f, ds, w, h => hK f ds w h
 | o :: rest, f, ds, w, h => by
  unfold AW at h ⊢
  split at h
  ·rename_i hg
   rw [if_pos hg]
   exact stepP_mono (fun v ds w hh => WOps_mono hK hZ rest _ ds w hh) (fun c w hh => hZ _ _ _ _ hh) h
  ·rename_i hg
   rw [if_neg hg]
   exact WOps_mono hK hZ rest _ ds w h
theorem WC_mono {n : Cf} : ∀ (c : Code) {Q Q' : Ce} (_ : ∀ e f ds w, Q e f ds w → Q' e f ds w) (f : Fr) (ds : DS) (w : World), WC P n c Q f ds w → WC P n c Q' f ds w
 | .skip, _, _, hQ, f, ds, w, h => hQ _ f ds w h
 | .label _, _, _, hQ, f, ds, w, h => hQ _ f ds w h
 | .ret, _, _, hQ, f, ds, w, h => hQ _ f ds w h
 | .exit _, _, _, hQ, f, ds, w, h => hQ _ f ds w h
 | .goto _, _, _, _, _, _, _, h => h.elim
 | .refuse _, _, _, _, _, _, _, h => h.elim
 | .seq a b, _, _, hQ, f, ds, w, h => by
  refine WC_mono a ?_ f ds w h
  intro e f ds w hh
  cases e with
  | normal => exact WC_mono b hQ f ds w hh
  | _ => exact hQ _ f ds w hh
 | .block id c, _, _, hQ, f, ds, w, h => by
  refine WC_mono c ?_ f ds w h
  intro e f ds w hh
  cases e with
  | exit i =>
   simp only [BZ] at hh ⊢
   split at hh
   ·rename_i hi; rw [if_pos hi]; exact hQ _ f ds w hh
   ·rename_i hi; rw [if_neg hi]; exact hQ _ f ds w hh
  | _ => exact hQ _ f ds w hh
 | .scope c, _, _, hQ, f, ds, w, h => by
  refine WC_mono c ?_ f ds w h
  intro e f ds w hh
  cases e with
  | goto _ => exact hh
  | _ => exact hQ _ f ds w hh
 | .cond c x y, _, _, hQ, f, ds, w, h => by
  simp only [WC] at h ⊢
  cases hc : ev f c <;> simp only [hc] at h ⊢
  case bool b =>
   cases b with
   | true => exact WC_mono x hQ f ds w h
   | false => exact WC_mono y hQ f ds w h
 | .region id ops draw, _, _, hQ, f, ds, w, h => by
  cases draw with
  | false => exact WOps_mono (fun f ds w hh => hQ _ f ds w hh) (fun f ds c w hh => hQ _ f ds w hh) ops.toList f ds w h
  | true => exact fun a h1 h2 h3 => wpIn_mono (h a h1 h2 h3) (lift_mono hQ)
 | .loop c, _, _, hQ, f, ds, w, h => by
  obtain ⟨α, I, μ, x, h0, hr⟩ := h
  refine ⟨α, I, μ, x, h0, fun x f ds w hI => WC_mono c ?_ f ds w (hr x f ds w hI)⟩
  intro e f ds w hh
  cases e with
  | normal => exact hh
  | _ => exact hQ _ f ds w hh
 | .rangeFunc g ps qs body, _, _, hQ, f, ds, w, h => fun a h1 h2 h3 => wpIn_mono (h a h1 h2 h3) (lift_mono hQ)
def joinQ {α : Type} (L : α → List (Nat × Value)) (I : α → World → Prop) (ds : DS) (Q : Ce) : Ce
 | .normal => fun f' ds' w' => ∃ x, ds' = ds ∧ agr (L x) f' ∧ I x w'
 | e => Q e
section
variable {n : Cf} {Q : Ce} {f : Fr} {ds : DS} {w : World} {α : Type} {L : α → List (Nat × Value)} {I : α → World → Prop} {ds0 : DS}
theorem CE {a : Code} {K : Fr → DS → World → Prop} (L : α → List (Nat × Value)) (I : α → World → Prop) (h1 : WC P n a (joinQ L I ds Q) f ds w) (h2 : ∀ x w' f', I x w' → K (ov (L x) f') ds w') : WC P n a (B6 K Q) f ds w := by
 refine WC_mono a ?_ f ds w h1
 intro e f' ds' w' hh
 cases e with
 | normal =>
  obtain ⟨x, rfl, ha, hI⟩ := hh
  have := h2 x w' f' hI
  rw [ov_of_agr ha] at this
  exact this
 | _ => exact hh
theorem An (x : α) (ha : agr (L x) f) (hI : I x w) : joinQ L I ds Q .normal f ds w := ⟨x, rfl, ha, hI⟩
instance : Nx (joinQ L I ds0 Q .ret f ds w) (0 = 0) (Q .ret f ds w) := ⟨fun _ h => h⟩
instance {i : Nat} : Nx (joinQ L I ds0 Q (.exit i) f ds w) (0 = 0) (Q (.exit i) f ds w) := ⟨fun _ h => h⟩
instance {c : List PanicEntry} : Nx (joinQ L I ds0 Q (.panic c) f ds w) (0 = 0) (Q (.panic c) f ds w) := ⟨fun _ h => h⟩
end
theorem fin_retA2 {P : Program} {fn : Func} {R : Value → World → Prop} {Y : List PanicEntry → World → Prop} {f : Fr} {w : World} {t u x T n b : Nat} {L : List Value} [hT : AggT P T n] (hr : fn.results.toList = [.cell t T, .tmp u, .tmp x]) (ha : f t = .pointer (some ⟨b, 0, none⟩)) (hl : L.length = n) (hc : Cells w b 0 L) (h : R (.tuple #[.agg L.toArray, f u, f x]) w) : Cw P fn R Y .ret f [] w :=
 ⟨rfl, by rw [hr]; exact ⟨_, _, ha, DR hT hl hc, h⟩⟩
attribute [irreducible] joinQ
end Go.Proofs.YtfcgdbmoncnibaaGreatDoor
namespace Go.Proofs.YtfcgdbmoncnibaaGreatDoor
open Go.RowKit
set_option linter.unusedVariables false
variable {mk : Prop} [MK mk]
def zero8 : List Value := [AL [], AL [], .int .i64 0, .int .i64 0, AL [], .int .i64 0, .int .i64 0, .slice none 0 0]
theorem signal_ok (E : Env) (N : Nat) : ItemR sgnR aggV E N 95 (body .signal) := by
 intro w ts h hN
 have hsl := h.st.slt
 unfold PDo
 refine Ar Tryz.func95 rfl Tryz.ntmps95 (Nat.le_of_ble_eq_true rfl) (by kernel_rfl) ?_
 repeat refine nx rfl ?_
 refine AA ?_
 refine Ay (fun w1 n1 => ?_)
 have b1 : Blk w1 w.heap.size 72 [AL [], .bool false, .int .i64 0] := n1.blk
 have z1 := n1.size
 have h1 := h.ext n1.keep
 have k1 : Keep [E.s] w w1 := n1.keep.any
 repeat refine nx rfl ?_
 refine AA (AQ rfl ?_)
 refine AS (B9 E w1 ts [105, 110, 112, 117, 116] h1.st) rfl ?_
 rintro _ w2 ⟨k2, i, t2, rfl, r2, q2⟩
 have h2 := h1.next k2 q2
 have b2 := b1.keep k2 (by simp <;> omega)
 have k12 := k1.trans k2 (by simp)
 have z2 := k2.size
 refine Ad (by rfl) (by rfl) ?_
 refine BE (cs := [AL [], .bool i, .int .i64 2]) rfl rfl (by rfl) (by intro u hu; simp at hu; rcases hu with rfl | rfl | rfl <;> rfl) (fun w3 n3 => ?_)
 have h3 := h2.ext n3.keep
 have b3 := b2.keep n3.keep (by simp)
 have z3 := n3.size
 have e3 := n3.blk
 have k13 := k12.ext n3.keep
 repeat refine nx rfl ?_
 (refine AA (AD rfl (AG rfl (Blk.cell (by assumption) (by rfl)) ?_)) <;> refine A9 rfl ?_)
 repeat refine nx rfl ?_
 refine CE (α := List Tok) (fun _ => [(0, pt E.s), (2, pt w.heap.size), (3, pt w2.heap.size)])
  (fun t W => Run (if i then .ret () else B7 [111, 117, 116, 112, 117, 116] : G Unit) t2 (.ok ((), t)) ∧ PW W E t ∧ Keep [E.s] w W ∧ w3.heap.size ≤ W.heap.size ∧ Blk W w.heap.size 72 [AL [], .bool false, .int .i64 0] ∧ Blk W w2.heap.size 72 [AL [], .bool i, .int .i64 2]) ?_ ?_
 ·cases i with
  | true =>
   repeat first | refine nx rfl ?_ | refine nf rfl ?_
   exact An t2 ⟨rfl, rfl, rfl, trivial⟩ ⟨Run.ret _ _, h3, k13, Nat.le_refl _, b3, e3⟩
  | false =>
   repeat refine nx rfl ?_
   refine AA (AQ rfl ?_)
   refine Aa (Cr E w3 t2 [111, 117, 116, 112, 117, 116] h3.st) rfl ?_ ?_
   rotate_left
   ·rintro ch wq ⟨kq, lq, rq, rfl⟩
    repeat refine nx rfl ?_
    exact AY ⟨k13.trans kq (by simp), lq, r2.bind (Run.bindE rq), rfl⟩
   rintro v w4 ⟨k4, _, t4, r4, q4, rfl⟩
   repeat refine nx rfl ?_
   exact An t4 ⟨rfl, rfl, rfl, trivial⟩ ⟨r4, h3.next k4 q4, k13.trans k4 (by simp), k4.size, b3.keep k4 (by simp <;> omega), e3.keep k4 (by simp <;> omega)⟩
 rintro t4 w4 f4 ⟨r4, h4, k14, z4, b4, e4⟩
 repeat refine nx rfl ?_
 refine AA (AQ rfl ?_)
 refine Aa (pname_ok E w4 t4 h4.st h4.gk) rfl ?_ ?_
 rotate_left
 ·rintro ch wq ⟨kq, lq, rq, rfl⟩
  repeat refine nx rfl ?_
  exact AY ⟨k14.trans kq (by simp), lq, r2.bind (r4.bind (Run.bindE rq)), rfl⟩
 rintro v w5 ⟨k5, s, t5, r5, q5, rfl, hs⟩
 have h5 := h4.next k5 q5
 have b5 := b4.keep k5 (by simp <;> omega)
 have e5 := e4.keep k5 (by simp <;> omega)
 have k15 := k14.trans k5 (by simp)
 have z5 := k5.size
 refine AD rfl ?_
 refine Ao rfl rfl rfl e5 (by simp) (fun w6 p6 => ?_)
 have h6 := h5.keep p6.keep (by simp <;> omega)
 have b6 := b5.keep p6.keep (by simp <;> omega)
 have e6 : Blk w6 w2.heap.size 72 [AL s, .bool i, .int .i64 2] := p6.blk
 have k16 := k15.trans p6.keep (by simp <;> omega)
 have z6 := p6.size
 repeat refine nx rfl ?_
 refine AA (AQ rfl ?_)
 refine AS (B9 E w6 t5 [58] h6.st) rfl ?_
 rintro _ w7 ⟨k7, c, t7, rfl, r7, q7⟩
 have h7 := h6.next k7 q7
 have b7 := b6.keep k7 (by simp <;> omega)
 have e7 := e6.keep k7 (by simp <;> omega)
 have k17 := k16.trans k7 (by simp)
 have z7 := k7.size
 repeat refine nx rfl ?_
 refine CE (α := List Tok × Int) (fun _ => [(0, pt E.s), (2, pt w.heap.size), (3, pt w2.heap.size)])
  (fun x W => Run ((BU [58]).bind fun b => if b then numberG else .ret 2) t5 (.ok (x.2, x.1)) ∧ PW W E x.1 ∧ Keep [E.s] w W ∧ w3.heap.size ≤ W.heap.size ∧ Blk W w.heap.size 72 [AL [], .bool false, .int .i64 0] ∧ Blk W w2.heap.size 72 [AL s, .bool i, .int .i64 x.2]) ?_ ?_
 ·cases c with
  | true =>
   repeat refine nx rfl ?_
   refine AA (AQ rfl ?_)
   refine Aa (number_ok E w7 t7 h7.st) rfl ?_ ?_
   rotate_left
   ·rintro ch wq ⟨kq, lq, rq, rfl⟩
    repeat refine nx rfl ?_
    exact AY ⟨k17.trans kq (by simp), lq, r2.bind (r4.bind (r5.bind (Run.bindE (r7.bind rq)))), rfl⟩
   rintro v w8 ⟨k8, n, t8, r8, q8, rfl, hn0, hn1⟩
   have h8 := h7.next k8 q8
   have b8 := b7.keep k8 (by simp <;> omega)
   have e8 := e7.keep k8 (by simp <;> omega)
   have z8 := k8.size
   refine AD rfl ?_
   refine Ao rfl rfl rfl e8 (by simp) (fun w9 p9 => ?_)
   have z9 := p9.size
   repeat refine nx rfl ?_
   exact An (t8, n) ⟨rfl, rfl, rfl, trivial⟩ ⟨r7.bind r8, h8.keep p9.keep (by simp <;> omega), (k17.trans k8 (by simp)).trans p9.keep (by simp <;> omega), by omega, b8.keep p9.keep (by simp <;> omega), p9.blk⟩
  | false =>
   repeat first | refine nx rfl ?_ | refine nf rfl ?_
   exact An (t7, 2) ⟨rfl, rfl, rfl, trivial⟩ ⟨r7.bind (Run.ret _ _), h7, k17, by omega, b7, e7⟩
 rintro ⟨t8, n⟩ w8 f8 ⟨r8, h8, k18, z8, b8, e8⟩
 simp only at r8 h8 e8
 repeat refine nx rfl ?_
 refine AA (AQ rfl ?_)
 refine Aa (Cr E w8 t8 [59] h8.st) rfl ?_ ?_
 rotate_left
 ·rintro ch wq ⟨kq, lq, rq, rfl⟩
  repeat refine nx rfl ?_
  exact AY ⟨k18.trans kq (by simp), lq, r2.bind (r4.bind (r5.bind (r8.bind (Run.bindE rq)))), rfl⟩
 rintro v w9 ⟨k9, _, t9, r9, q9, rfl⟩
 have b9 := b8.keep k9 (by simp <;> omega)
 have e9 := e8.keep k9 (by simp <;> omega)
 repeat refine nx rfl ?_
 refine AA (AX rfl e9 rfl ?_)
 refine AZ (cs := [AL s, .bool i, .int .i64 n]) rfl rfl rfl (by intro u hu; simp at hu; rcases hu with rfl | rfl | rfl <;> rfl) b9 (by simp) (fun w10 p10 => ?_)
 repeat refine nx rfl ?_
 have b10 : Blk w10 w.heap.size 72 [AL s, .bool i, .int .i64 n] := p10.blk
 exact A6 rfl rfl rfl b10.cells ⟨(k18.trans k9 (by simp)).trans p10.keep (by simp <;> omega), ⟨s, i, n⟩, t9, r2.bind (r4.bind (r5.bind (r8.bind (r9.bind (Run.ret _ _))))), q9.keep p10.keep (by simp <;> omega), _, rfl, rfl⟩
theorem requirement_ok (E : Env) (N : Nat) : ItemR reqR aggV E N 110 (body .req) := by
 intro w ts h hN
 have hsl := h.st.slt
 unfold PDo
 refine Ar Tryz.func110 rfl Tryz.ntmps110 (Nat.le_of_ble_eq_true rfl) (by kernel_rfl) ?_
 repeat refine nx rfl ?_
 refine AA ?_
 refine Ay (fun w1 n1 => ?_)
 have b1 : Blk w1 w.heap.size 30 zero8 := n1.blk
 have z1 := n1.size
 have h1 := h.ext n1.keep
 have k1 : Keep [E.s] w w1 := n1.keep.any
 repeat refine nx rfl ?_
 refine AA (Ad (by rfl) (by rfl) ?_)
 refine BE (cs := [AL [], AL [], .int .i64 1, .int .i64 0, AL [], .int .i64 0, .int .i64 0, .slice none 0 0]) rfl rfl (by rfl) (by intro u hu; simp at hu; rcases hu with rfl | rfl | rfl | rfl | rfl | rfl <;> rfl) (fun w3 n3 => ?_)
 have h3 := h1.ext n3.keep
 have b3 := b1.keep n3.keep (by simp)
 have z3 := n3.size
 have e3 := n3.blk
 have k13 := k1.ext n3.keep
 repeat refine nx rfl ?_
 refine AA (AQ rfl ?_)
 refine AS (B9 E w3 ts [97, 115, 115, 117, 109, 101] h3.st) rfl ?_
 rintro _ w2 ⟨k2, i, t2, rfl, r2, q2⟩
 have h2 := h3.next k2 q2
 have b2 := b3.keep k2 (by simp <;> omega)
 have e2 := e3.keep k2 (by simp <;> omega)
 have k12 := k13.trans k2 (by simp)
 have z2 := k2.size
 refine A9 rfl ?_
 repeat refine nx rfl ?_
 refine CE (α := List Tok × Int) (fun _ => [(0, pt E.s), (2, pt w.heap.size), (3, pt w1.heap.size)])
  (fun x W => Run (if i then .ret 1 else (B7 [103, 117, 97, 114, 97, 110, 116, 101, 101]).bind fun _ => .ret 2 : G Int) t2 (.ok (x.2, x.1)) ∧ PW W E x.1 ∧ Keep [E.s] w W ∧ w3.heap.size ≤ W.heap.size ∧ Blk W w.heap.size 30 zero8 ∧ Blk W w1.heap.size 30 [AL [], AL [], .int .i64 x.2, .int .i64 0, AL [], .int .i64 0, .int .i64 0, .slice none 0 0]) ?_ ?_
 ·cases i with
  | true =>
   repeat first | refine nx rfl ?_ | refine nf rfl ?_
   exact An (t2, 1) ⟨rfl, rfl, rfl, trivial⟩ ⟨Run.ret _ _, h2, k12, by omega, b2, e2⟩
  | false =>
   repeat refine nx rfl ?_
   refine AA (AQ rfl ?_)
   refine Aa (Cr E w2 t2 [103, 117, 97, 114, 97, 110, 116, 101, 101] h2.st) rfl ?_ ?_
   rotate_left
   ·rintro ch wq ⟨kq, lq, rq, rfl⟩
    repeat refine nx rfl ?_
    exact AY ⟨k12.trans kq (by simp), lq, r2.bind (Run.bindE (Run.bindE rq)), rfl⟩
   rintro v w4 ⟨k4, _, t4, r4, q4, rfl⟩
   have e4 := e2.keep k4 (by simp <;> omega)
   have z4 := k4.size
   repeat refine nx rfl ?_
   refine AA (AD rfl ?_)
   refine Ao rfl rfl rfl e4 (by simp) (fun w5 p5 => ?_)
   have z5 := p5.size
   repeat refine nx rfl ?_
   exact An (t4, 2) ⟨rfl, rfl, rfl, trivial⟩ ⟨r4.bind (Run.ret _ _), (h2.next k4 q4).keep p5.keep (by simp <;> omega), (k12.trans k4 (by simp)).trans p5.keep (by simp <;> omega), by omega, (b2.keep k4 (by simp <;> omega)).keep p5.keep (by simp <;> omega), p5.blk⟩
 rintro ⟨t4, kd⟩ w4 f4 ⟨r4, h4, k14, z4, b4, e4⟩
 simp only at r4 h4 e4
 repeat refine nx rfl ?_
 refine AA (AQ rfl ?_)
 refine Aa (pname_ok E w4 t4 h4.st h4.gk) rfl ?_ ?_
 rotate_left
 ·rintro ch wq ⟨kq, lq, rq, rfl⟩
  repeat refine nx rfl ?_
  exact AY ⟨k14.trans kq (by simp), lq, r2.bind (r4.bind (Run.bindE rq)), rfl⟩
 rintro v w5 ⟨k5, s, t5, r5, q5, rfl, hs⟩
 have h5 := h4.next k5 q5
 have b5 := b4.keep k5 (by simp <;> omega)
 have e5 := e4.keep k5 (by simp <;> omega)
 have k15 := k14.trans k5 (by simp)
 have z5 := k5.size
 refine AD rfl ?_
 refine Ao rfl rfl rfl e5 (by simp) (fun w6 p6 => ?_)
 have h6 := h5.keep p6.keep (by simp <;> omega)
 have b6 := b5.keep p6.keep (by simp <;> omega)
 have e6 : Blk w6 w1.heap.size 30 [AL [], AL s, .int .i64 kd, .int .i64 0, AL [], .int .i64 0, .int .i64 0, .slice none 0 0] := p6.blk
 have k16 := k15.trans p6.keep (by simp <;> omega)
 have z6 := p6.size
 repeat refine nx rfl ?_
 refine AA (AQ rfl ?_)
 refine Aa (Cr E w6 t5 [58] h6.st) rfl ?_ ?_
 rotate_left
 ·rintro ch wq ⟨kq, lq, rq, rfl⟩
  repeat refine nx rfl ?_
  exact AY ⟨k16.trans kq (by simp), lq, r2.bind (r4.bind (r5.bind (Run.bindE rq))), rfl⟩
 rintro v w7 ⟨k7, _, t7, r7, q7, rfl⟩
 have h7 := h6.next k7 q7
 have b7 := b6.keep k7 (by simp <;> omega)
 have e7 := e6.keep k7 (by simp <;> omega)
 have k17 := k16.trans k7 (by simp)
 have z7 := k7.size
 repeat refine nx rfl ?_
 refine AA (AQ rfl ?_)
 refine Aa ((formulas_ok E t7.length).2.2.2 w7 t7 h7 (Nat.le_refl _)) rfl ?_ ?_
 rotate_left
 ·rintro ch wq ⟨kq, lq, rq, rfl⟩
  repeat refine nx rfl ?_
  exact AY ⟨k17.trans kq (by simp), lq, r2.bind (r4.bind (r5.bind (r7.bind (Run.callE rq)))), rfl⟩
 rintro v w8 ⟨k8, g, t8, r8, q8, f8⟩
 have b8 := b7.keep k8 (by simp <;> omega)
 have e8 := e7.keep k8 (by simp <;> omega)
 have k18 := k17.trans k8 (by simp)
 have z8 := k8.size
 obtain ⟨cs, rfl, hcs, hone⟩ := f8.cells
 obtain ⟨c0, c1, c2, c3, c4, rfl⟩ := Ch hcs
 refine AD rfl ?_
 refine AZ (cs := [c0, c1, c2, c3, c4]) rfl rfl rfl hone e8 (by simp) (fun w9 p9 => ?_)
 have b9 := b8.keep p9.keep (by simp <;> omega)
 have e9 : Blk w9 w1.heap.size 30 [AL [], AL s, .int .i64 kd, c0, c1, c2, c3, c4] := p9.blk
 have f9 := f8.keep p9.keep (by intro b hb; simp [fresh] at hb ⊢; omega)
 have z9 := p9.size
 repeat refine nx rfl ?_
 refine AA (AX rfl e9 rfl ?_)
 have hone8 : oneC [AL [], AL s, .int .i64 kd, c0, c1, c2, c3, c4] := by
  intro u hu
  simp only [List.mem_cons, List.not_mem_nil, or_false] at hu
  rcases hu with rfl | rfl | rfl | hu
  ·rfl
  ·rfl
  ·rfl
  ·exact hone u (by simp only [List.mem_cons, List.not_mem_nil, or_false]; exact hu)
 refine AZ (cs := [AL [], AL s, .int .i64 kd, c0, c1, c2, c3, c4]) rfl rfl rfl hone8 b9 (by simp [zero8]) (fun w10 p10 => ?_)
 repeat refine nx rfl ?_
 have b10 : Blk w10 w.heap.size 30 [AL [], AL s, .int .i64 kd, c0, c1, c2, c3, c4] := p10.blk
 have f10 := f9.keep p10.keep (by intro b hb; simp [fresh] at hb ⊢; omega)
 exact A6 rfl rfl rfl b10.cells ⟨(k18.trans p9.keep (by simp <;> omega)).trans p10.keep (by simp <;> omega), ⟨[], s, kd, g⟩, t8, r2.bind (r4.bind (r5.bind (r7.bind (Run.call r8 (Run.ret _ _))))), (q8.keep p9.keep (by simp <;> omega)).keep p10.keep (by simp <;> omega), _, rfl, [c0, c1, c2, c3, c4], rfl, rfl, f10.mono fun b hb => by simp only [fresh] at hb ⊢; omega⟩
theorem line_ok (E : Env) (N : Nat) : ItemR reqR aggV E N 132 (body .line) := by
 intro w ts h hN
 have hsl := h.st.slt
 unfold PDo
 refine Ar Tryz.func132 rfl Tryz.ntmps132 (Nat.le_of_ble_eq_true rfl) (by kernel_rfl) ?_
 repeat refine nx rfl ?_
 refine AA ?_
 refine Ay (fun w1 n1 => ?_)
 have b1 : Blk w1 w.heap.size 30 zero8 := n1.blk
 have z1 := n1.size
 have h1 := h.ext n1.keep
 have k1 : Keep [E.s] w w1 := n1.keep.any
 repeat refine nx rfl ?_
 refine AA (AQ rfl ?_)
 refine Aa (requirement_ok E N w1 ts h1 hN) rfl ?_ ?_
 rotate_left
 ·rintro ch wq ⟨kq, lq, rq, rfl⟩
  repeat refine nx rfl ?_
  exact AY ⟨k1.trans kq (by simp), lq, Run.callE rq, rfl⟩
 rintro v w2 ⟨k2, r, t2, r2, q2, c, rfl, f2⟩
 have h2 := h1.next k2 q2
 have b2 := b1.keep k2 (by simp <;> omega)
 have k12 := k1.trans k2 (by simp)
 have z2 := k2.size
 have hcl : c.length = 8 := reqR.len f2
 have hco := reqR.one f2
 refine BE (cs := c) rfl hcl (by rfl) hco (fun w3 n3 => ?_)
 have h3 := h2.ext n3.keep
 have b3 := b2.keep n3.keep (by simp)
 have f3 := reqR.ext f2 n3.keep
 have z3 := n3.size
 have e3 := n3.blk
 have k13 := k12.ext n3.keep
 repeat refine nx rfl ?_
 refine AA (AQ rfl ?_)
 refine Aa (Cr E w3 t2 [59] h3.st) rfl ?_ ?_
 rotate_left
 ·rintro ch wq ⟨kq, lq, rq, rfl⟩
  repeat refine nx rfl ?_
  exact AY ⟨k13.trans kq (by simp), lq, Run.call r2 (Run.bindE rq), rfl⟩
 rintro v w4 ⟨k4, _, t4, r4, q4, rfl⟩
 have b4 := b3.keep k4 (by simp <;> omega)
 have e4 := e3.keep k4 (by simp <;> omega)
 have f4 := reqR.keep f3 k4 (by intro b hb; simp [fresh] at hb ⊢; omega)
 have z4 := k4.size
 repeat refine nx rfl ?_
 refine AA (AX rfl e4 hcl ?_)
 refine AZ (cs := c) rfl rfl hcl hco b4 (by simp [zero8]) (fun w5 p5 => ?_)
 repeat refine nx rfl ?_
 have b5 : Blk w5 w.heap.size 30 c := by
  have := p5.blk
  rw [B4 zero8 c hcl] at this
  exact this
 have f5 := reqR.keep f4 p5.keep (by intro b hb; simp [fresh] at hb ⊢; omega)
 exact A6 rfl rfl hcl b5.cells ⟨(k13.trans k4 (by simp)).trans p5.keep (by simp <;> omega), r, t4, Run.call r2 (r4.bind (Run.ret _ _)), q4.keep p5.keep (by simp <;> omega), c, rfl, reqR.mono f5 fun b hb => by simp only [fresh] at hb ⊢; omega⟩
end Go.Proofs.YtfcgdbmoncnibaaGreatDoor
namespace Go.Proofs.YtfcgdbmoncnibaaGreatDoor
open Go.RowKit
set_option linter.unusedVariables false
variable {mk : Prop} [MK mk]
theorem Cq (s t : List UInt8) (ts : List Tok) : Run (sees2 s t) ts (.ok (Aw s (ts.head?.map bare) || Aw t (ts.head?.map bare), ts)) := Run.look (Run.ret _ _)
theorem opened_ok (E : Env) (w : World) : MoreOk E w 97 [pt E.s] [] (sees2 [112, 97, 114, 116] [112, 97, 114, 116]) := by
 intro w ts _ h
 show Fn Tryz.prog _ [pt E.s] _ _
 refine Ab Tryz.func97 rfl Tryz.ntmps97 (Nat.le_of_ble_eq_true rfl) (by kernel_rfl) ?_
 repeat refine nx rfl ?_
 refine AA (AC (AB rfl ?_))
 repeat refine nx rfl ?_
 refine AA (AQ rfl ?_)
 refine AS (sees_ok E w ts [112, 97, 114, 116] h.st) rfl ?_
 rintro v w' ⟨rfl, rfl⟩
 refine AC (AB rfl ?_)
 repeat refine nx rfl ?_
 refine AO rfl ⟨_, rfl, ?_, rfl⟩
 have := Cq [112, 97, 114, 116] [112, 97, 114, 116] ts
 rwa [Bool.or_self] at this
theorem required_ok (E : Env) (w : World) : MoreOk E w 131 [pt E.s] [] (sees2 [97, 115, 115, 117, 109, 101] [103, 117, 97, 114, 97, 110, 116, 101, 101]) := by
 intro w ts _ h
 show Fn Tryz.prog _ [pt E.s] _ _
 refine Ab Tryz.func131 rfl Tryz.ntmps131 (Nat.le_of_ble_eq_true rfl) (by kernel_rfl) ?_
 repeat refine nx rfl ?_
 refine AA (AC (AB rfl ?_))
 repeat refine nx rfl ?_
 refine AA (AQ rfl ?_)
 refine AS (sees_ok E w ts [97, 115, 115, 117, 109, 101] h.st) rfl ?_
 rintro v w' ⟨rfl, rfl⟩
 have hr := Cq [97, 115, 115, 117, 109, 101] [103, 117, 97, 114, 97, 110, 116, 101, 101] ts
 cases hb : Aw [97, 115, 115, 117, 109, 101] (ts.head?.map bare) with
 | true =>
  refine AB rfl (AI rfl ?_)
  refine AI rfl (AK rfl (AB rfl (AC (AB rfl ?_))))
  repeat refine nx rfl ?_
  refine AO rfl ⟨_, rfl, ?_, rfl⟩
  rw [hb] at hr; exact hr
 | false =>
  refine AB rfl (AE rfl (AQ rfl ?_))
  refine AE rfl (AS (sees_ok E w' ts [103, 117, 97, 114, 97, 110, 116, 101, 101] h.st) rfl ?_)
  rintro v w'' ⟨rfl, rfl⟩
  refine AP rfl (AB rfl (AC (AB rfl ?_)))
  repeat refine nx rfl ?_
  refine AO rfl ⟨_, rfl, ?_, rfl⟩
  rw [hb] at hr; exact hr
theorem declared_ok (E : Env) (w0 : World) (bx : Nat) (hx : Blk w0 bx 89 [pt E.s]) (hne : bx ≠ E.s) : MoreOk E w0 92 [] [pt bx] (sees2 [105, 110, 112, 117, 116] [111, 117, 116, 112, 117, 116]) := by
 intro w ts hk h
 show Fn Tryz.prog _ [pt bx] _ _
 have hb := hx.keep hk (by simpa using hne)
 refine Ab Tryz.func92 rfl Tryz.ntmps92 (Nat.le_of_ble_eq_true rfl) (by kernel_rfl) ?_
 repeat refine nx rfl ?_
 refine AA (AC (AB rfl ?_))
 repeat refine nx rfl ?_
 refine AA (AG rfl (Blk.cell (by assumption) (by rfl)) ?_)
 refine AS (sees_ok E w ts [105, 110, 112, 117, 116] h.st) rfl ?_
 rintro v w' ⟨rfl, rfl⟩
 have hr := Cq [105, 110, 112, 117, 116] [111, 117, 116, 112, 117, 116] ts
 cases hc : Aw [105, 110, 112, 117, 116] (ts.head?.map bare) with
 | true =>
  refine AB rfl (AI rfl ?_)
  refine AI rfl (AK rfl (AB rfl (AC (AB rfl ?_))))
  repeat refine nx rfl ?_
  refine AO rfl ⟨_, rfl, ?_, rfl⟩
  rw [hc] at hr; exact hr
 | false =>
  refine AB rfl (AE rfl (AG rfl (Blk.cell (by assumption) (by rfl)) ?_))
  refine AE rfl (AS (sees_ok E w' ts [111, 117, 116, 112, 117, 116] h.st) rfl ?_)
  rintro v w'' ⟨rfl, rfl⟩
  refine AP rfl (AB rfl (AC (AB rfl ?_)))
  repeat refine nx rfl ?_
  refine AO rfl ⟨_, rfl, ?_, rfl⟩
  rw [hc] at hr; exact hr
theorem expect_inv {t : List UInt8} {ts ts' : List Tok} {u : Unit} (h : Run (B7 t) ts (.ok (u, ts'))) : ts'.length + 1 = ts.length := by
 cases hs : Aw t (ts.head?.map bare) with
 | true =>
  have e := h.det (run_expect_t hs)
  cases e
  cases ts with
  | nil => simp [Aw] at hs
  | cons x l => rfl
 | false => have e := h.det (run_expect_f hs); cases e
theorem name_inv {ts ts' : List Tok} {s : List UInt8} (h : Run nameG ts (.ok (s, ts'))) : ts'.length + 1 = ts.length := by
 cases ts with
 | nil => cases h.det (Run.look (Run.fail _))
 | cons x l =>
  cases hb : (decide (x.kind = 1) && BV x.text) with
  | true =>
   have hr : Run nameG (x :: l) (.ok (x.text, l)) := by
    refine Run.look ?_
    show Run (if (decide (x.kind = 1) && BV x.text) = true then _ else _) _ _
    rw [if_pos hb]; exact Run.next (Run.ret _ _)
   cases h.det hr; rfl
  | false =>
   have hr : Run nameG (x :: l) (.error (x :: l)) := by
    refine Run.look ?_
    show Run (if (decide (x.kind = 1) && BV x.text) = true then _ else _) _ _
    rw [hb]; exact Run.fail _
   cases h.det hr
theorem Run.le {α : Type} {p : G α} {l l' : List Tok} {a : α} (h : Run p l (.ok (a, l'))) : l'.length ≤ l.length := (show l' <:+ l from h.suffix).length_le
theorem Cd {α β : Type} {p : G α} {q : α → G β} {l l' : List Tok} {b : β} (h : Run (p.bind q) l (.ok (b, l'))) : ∃ a l1, Run p l (.ok (a, l1)) ∧ Run (q a) l1 (.ok (b, l')) := by
 rcases h.bind_inv with ⟨a, l1, h1, h2⟩ | ⟨e, _, h2⟩
 ·exact ⟨a, l1, h1, h2⟩
 ·cases h2
theorem call_ok {α : Type} {nt : NT} {k : nt.T → G α} {l l' : List Tok} {b : α} (h : Run (.call nt k) l (.ok (b, l'))) : ∃ a l1, RunN nt l (.ok (a, l1)) ∧ Run (k a) l1 (.ok (b, l')) := by
 rcases h.call_inv with ⟨a, l1, h1, h2⟩ | ⟨e, _, h2⟩
 ·exact ⟨a, l1, h1, h2⟩
 ·cases h2
theorem signal_less {t t2 : List Tok} {a : Sgn} (h : Run (body .signal) t (.ok (a, t2))) : t2.length < t.length := by
 obtain ⟨i, t1, r1, h⟩ := Cd h
 obtain ⟨_, t3, r3, h⟩ := Cd h
 obtain ⟨s, t4, r4, h⟩ := Cd h
 have := r1.le; have := r3.le; have := name_inv r4; have := h.le
 omega
theorem req_less {t t2 : List Tok} {a : Rqm} (h : Run (body .req) t (.ok (a, t2))) : t2.length < t.length := by
 obtain ⟨i, t1, r1, h⟩ := Cd h
 obtain ⟨_, t3, r3, h⟩ := Cd h
 obtain ⟨s, t4, r4, h⟩ := Cd h
 have := r1.le; have := r3.le; have := name_inv r4; have := h.le
 omega
theorem line_less {t t2 : List Tok} {a : Rqm} (h : Run (body .line) t (.ok (a, t2))) : t2.length < t.length := by
 obtain ⟨r, t1, r1, h⟩ := call_ok h
 have := req_less r1; have := h.le
 omega
theorem part_less {t t2 : List Tok} {a : List Rqm} (h : Run (body .part) t (.ok (a, t2))) : t2.length < t.length := by
 obtain ⟨_, t1, r1, h⟩ := Cd h
 have := expect_inv r1; have := h.le
 omega
theorem whileP_sig : WhileP (sees2 [105, 110, 112, 117, 116] [111, 117, 116, 112, 117, 116]) (body .signal) (body .sigs) where
 done h := h.bind (Run.ret _ _)
 more h h1 h2 := h.bind (Run.call h1 (Run.call h2 (Run.ret _ _)))
 err1 h h1 := h.bind (Run.callE h1)
 err2 h h1 h2 := h.bind (Run.call h1 (Run.callE h2))
 less _ h := signal_less h
theorem whileP_lines : WhileP (sees2 [97, 115, 115, 117, 109, 101] [103, 117, 97, 114, 97, 110, 116, 101, 101]) (body .line) (body .lines) where
 done h := h.bind (Run.ret _ _)
 more h h1 h2 := h.bind (Run.call h1 (Run.call h2 (Run.ret _ _)))
 err1 h h1 := h.bind (Run.callE h1)
 err2 h h1 h2 := h.bind (Run.call h1 (Run.callE h2))
 less _ h := line_less h
theorem whileP_parts : WhileP (sees2 [112, 97, 114, 116] [112, 97, 114, 116]) (body .part) (body .parts) where
 done h := h.bind (Run.ret _ _)
 more h h1 h2 := h.bind (Run.call h1 (Run.call h2 (Run.ret _ _)))
 err1 h h1 := h.bind (Run.callE h1)
 err2 h h1 h2 := h.bind (Run.call h1 (Run.callE h2))
 less _ h := part_less h
theorem own_blkN {w : World} {B e n size : Nat} {a : Option Addr} {cap : Nat} {xs : List Value} (h : w.ownsRow B e size (.slice a n cap) n xs) (hn : 0 < n) :
  ∃ g L, a = some ⟨g, 0, none⟩ ∧ B ≤ g ∧ Blk w g e L ∧ n * size ≤ L.length ∧ ∀ w' i u, Put w w' g e (L.set i u) → w'.ownsRow B e size (.slice a n cap) n (xs.set i u) := by
 obtain ⟨hl, hv⟩ := h
 rcases hv with ⟨_, rfl⟩ | ⟨g, cap', cur, hv, hB, hg, h1, h2, h3, h4⟩
 ·omega
 ·cases hv
  refine ⟨g, cur.toList, rfl, hB, by simpa [Blk] using hg, ?_, fun w' i u hp => ⟨by simpa using hl, .inr ⟨g, cap, (cur.toList.set i u).toArray, rfl, hB, hp.blk, h1, h2, by simpa using h3, ?_⟩⟩⟩
  ·have := congrArg List.length h4
   simp at this
   rw [hl] at this
   simp; omega
  ·show ((cur.toList.set i u).toArray.toList.take (n * size)) = _
   rw [← h4, List.take_set]
theorem flatten_set (n : Nat) (u : Value) : ∀ (L : List (List Value)) (k j : Nat) (c : List Value), (∀ c ∈ L, c.length = n) → L[k]? = some c → j < n → L.flatten.set (k * n + j) u = (L.set k (c.set j u)).flatten
 | [], k, j, c, _, h, _ => by simp at h
 | d :: L, 0, j, c, h5, h, hj => by
  simp at h; subst h
  have := h5 d (by simp)
  rw [Nat.zero_mul, Nat.zero_add, List.flatten_cons, List.set_append_left _ _ (by omega)]
  rfl
 | d :: L, k + 1, j, c, h5, h, hj => by
  have hd := h5 d (by simp)
  rw [List.flatten_cons, List.set_append_right _ _ (by rw [hd, Nat.succ_mul]; omega), hd, show (k + 1) * n + j - n = k * n + j by rw [Nat.succ_mul]; omega]
  rw [flatten_set n u L k j c (fun c hc => h5 c (by simp [hc])) (by simpa using h) hj]
  rfl
def inPart (s : List UInt8) (r : Rqm) : Rqm := ⟨s, r.name, r.kind, r.formula⟩
def upTo {α : Type} (f : α → α) (k : Nat) (l : List α) : List α := (l.take k).map f ++ l.drop k
theorem upTo_get {α : Type} (f : α → α) {k : Nat} {l : List α} (hk : k ≤ l.length) (i : Nat) : (upTo f k l)[i]? = if i < k then (l[i]?).map f else l[i]? := by
 unfold upTo
 split
 ·rename_i h
  rw [List.getElem?_append_left (by simp; omega), List.getElem?_map, List.getElem?_take, if_pos h]
 ·rename_i h
  rw [List.getElem?_append_right (by simp; omega), List.getElem?_drop]
  congr 1
  simp; omega
theorem upTo_len {α : Type} (f : α → α) (k : Nat) (l : List α) (hk : k ≤ l.length) : (upTo f k l).length = l.length := by simp [upTo]; omega
theorem part_ok (E : Env) (N : Nat) : ItemR reqsR oneV E N 98 (body .part) := by
 intro w ts h hN
 have hsl := h.st.slt
 unfold PDo
 refine Ar Tryz.func98 rfl Tryz.ntmps98 (Nat.le_of_ble_eq_true rfl) (by kernel_rfl) ?_
 repeat refine nx rfl ?_
 refine AA (AC (Ae rfl ?_))
 repeat refine nx rfl ?_
 refine AA (AQ rfl ?_)
 refine Aa (Cr E w ts [112, 97, 114, 116] h.st) rfl ?_ ?_
 rotate_left
 ·rintro ch wq ⟨kq, lq, rq, rfl⟩
  repeat refine nx rfl ?_
  exact AY ⟨(Keep.refl [E.s] w).trans kq (by simp), lq, Run.bindE rq, rfl⟩
 rintro v w1 ⟨k1, _, t1, r1, q1, rfl⟩
 have h1 := h.next k1 q1
 repeat refine nx rfl ?_
 refine AA (AQ rfl ?_)
 refine Aa (pname_ok E w1 t1 h1.st h1.gk) rfl ?_ ?_
 rotate_left
 ·rintro ch wq ⟨kq, lq, rq, rfl⟩
  repeat refine nx rfl ?_
  exact AY ⟨k1.trans kq (by simp), lq, r1.bind (Run.bindE rq), rfl⟩
 rintro v w2 ⟨k2, s, t2, r2, q2, rfl, hs⟩
 have h2 := h1.next k2 q2
 have k12 := k1.trans k2 (by simp)
 refine AC (AU rfl ?_)
 repeat refine nx rfl ?_
 refine AA (AQ rfl ?_)
 refine Aa (Cr E w2 t2 [123] h2.st) rfl ?_ ?_
 rotate_left
 ·rintro ch wq ⟨kq, lq, rq, rfl⟩
  repeat refine nx rfl ?_
  exact AY ⟨k12.trans kq (by simp), lq, r1.bind (r2.bind (Run.bindE rq)), rfl⟩
 rintro v w3 ⟨k3, _, t3, r3, q3, rfl⟩
 have h3 := h2.next k3 q3
 have k13 := k12.trans k3 (by simp)
 repeat refine nx rfl ?_
 refine AA (AQ rfl (BH rfl rfl (AQ rfl (BH rfl rfl ?_))))
 refine Aa (whileReq_ok E t3.length _ _ [pt E.s] [] _ _ _ whileP_lines w3 t3 (required_ok E w3) (line_ok E _) h3 (Nat.le_refl _)) rfl ?_ ?_
 rotate_left
 ·rintro ch wq ⟨kq, lq, rq, rfl⟩
  repeat refine nx rfl ?_
  exact AY ⟨k13.trans kq (by simp), lq, r1.bind (r2.bind (r3.bind (Run.callE rq))), rfl⟩
 rintro v w4 ⟨k4, l, t4, r4, q4, L, o4, F4⟩
 have h4 := h3.next k4 q4
 have k14 := k13.trans k4 (by simp)
 obtain ⟨a, c, rfl⟩ : ∃ a c, v = .slice a l.length c := by
  rcases o4.2 with ⟨rfl, h0⟩ | ⟨g, cap, cur, rfl, _⟩
  ·exact ⟨none, 0, by rw [h0]⟩
  ·exact ⟨_, _, rfl⟩
 have hlm : l.length ≤ 9223372036854775807 := by
  obtain ⟨_, _, hv, g1, g2, _⟩ := A3 (ok := A0) o4 fun _ _ => trivial
  cases hv; omega
 refine AC (Ae rfl ?_)
 repeat refine nx rfl ?_
 refine AA (AQ rfl ?_)
 refine Aa (Cr E w4 t4 [125] h4.st) rfl ?_ ?_
 rotate_left
 ·rintro ch wq ⟨kq, lq, rq, rfl⟩
  repeat refine nx rfl ?_
  exact AY ⟨k14.trans kq (by simp), lq, r1.bind (r2.bind (r3.bind (Run.call r4 (Run.bindE rq)))), rfl⟩
 rintro v w5 ⟨k5, _, t5, r5, q5, rfl⟩
 have h5 := h4.next k5 q5
 have k15 := k14.trans k5 (by simp)
 have z13 := k13.size
 have hsg : ∀ g, (Value.slice a l.length c).ownBlock = some g → w3.heap.size ≤ g ∧ g < w4.heap.size := fun g hg => BM o4 hg
 have o5 := Ax o4 k5 (fun g hg => by have := hsg g hg; simp; omega)
 have F5 := F4.keep k5 (fun b hb => by have := hb.1; simp [fresh] at this ⊢; omega)
 repeat refine nx rfl ?_
 refine AA (Ae rfl (As rfl (AF rfl ?_)))
 repeat refine nx rfl ?_
 refine BJ (α := Nat) (fun k => [(3, AL s), (4, .slice a l.length c), (20, .int .i64 (l.length : Int)), (21, .int .i64 (k : Int))])
  (fun k W => k ≤ l.length ∧ Keep [E.s] w W ∧ PSt W E t5 ∧ ∃ L', W.ownsRow w3.heap.size 30 8 (.slice a l.length c) l.length L'.flatten ∧ RsAt reqR (fun b => fresh w3 b ∧ (Value.slice a l.length c).ownBlock ≠ some b) W L' (upTo (inPart s) k l)) (fun k => l.length - k) 0 ⟨rfl, rfl, rfl, rfl, trivial⟩
  ⟨by omega, k15, q5, L, o5, by simpa [upTo] using F5⟩ ?_
 rintro k w6 f6 ⟨hk, k6, q6, L', o6, F6⟩
 repeat refine nx rfl ?_
 by_cases hlt : k < l.length
 ·obtain ⟨g, Lc, rfl, hB, hb, hLc, hput⟩ := own_blkN o6 (by omega)
  have hkl : k * 8 + 8 ≤ l.length * 8 := by omega
  have hul := upTo_len (inPart s) k l hk
  obtain ⟨cc, hcc⟩ : ∃ cc, L'[k]? = some cc := ⟨_, List.getElem?_eq_getElem (by rw [F6.1, hul]; exact hlt)⟩
  obtain ⟨r, hr⟩ : ∃ r, l[k]? = some r := ⟨_, List.getElem?_eq_getElem hlt⟩
  have hr' : (upTo (inPart s) k l)[k]? = some r := by rw [upTo_get _ hk, if_neg (by omega), hr]
  have hfit := F6.2 k cc r hcc hr'
  refine AA (BC rfl rfl (by omega) ?_)
  repeat refine nx rfl ?_
  refine AA (AF rfl (AC (AF rfl ?_)))
  repeat refine nx rfl ?_
  refine AA (Ae rfl (AF rfl (AU rfl (CD rfl rfl rfl (by omega) (AD rfl ?_)))))
  refine Ao (v := AL s) rfl rfl rfl hb (by omega) (fun w7 p7 => ?_)
  repeat refine nx rfl ?_
  (refine AA (BK rfl rfl (by first | exact Am (by omega) (by omega) | exact At (by omega) (by omega) | exact Al (by omega) (by omega)) ?_) <;> refine AF rfl ?_)
  repeat refine nx rfl ?_
  have e0 : 0 + k * 8 + 0 = k * 8 + 0 := by omega
  rw [e0] at p7
  have o7 := hput w7 _ _ p7
  have hfs := flatten_set 8 (AL s) L' k 0 cc F6.len hcc (by omega)
  rw [hfs] at o7
  have z3 := k3.size
  refine ⟨k + 1, ⟨rfl, ⟨rfl, rfl, rfl, ?_, trivial⟩, ⟨by omega, k6.trans p7.keep (fun x hx hlt => by simp at hx; omega), q6.keep p7.keep (fun x hx => by simp at hx; omega), _, o7, ?_⟩⟩, by omega⟩
  ·show Value.int .i64 ((k : Int) + 1) = _
   rw [Int.natCast_add]; rfl
  ·refine ⟨by rw [List.length_set, F6.1, upTo_len _ _ _ hk, upTo_len _ _ _ (by omega)], fun i d x hd hx => ?_⟩
   have hkeep : ∀ b, (fresh w3 b ∧ (Value.slice (some ⟨g, 0, none⟩) l.length c).ownBlock ≠ some b) → b ∉ [g] := fun b hb hx => hb.2 (by simp at hx; subst hx; rfl)
   rw [upTo_get _ (by omega)] at hx
   rw [List.getElem?_set] at hd
   by_cases hik : k = i
   ·subst hik
    rw [if_pos rfl, if_pos (by rw [F6.1, hul]; exact hlt)] at hd
    cases hd
    rw [if_pos (by omega), hr] at hx
    cases hx
    obtain ⟨d, rfl, hd5, hdf⟩ := hfit
    exact ⟨d, rfl, hd5, hdf.keep p7.keep hkeep⟩
   ·rw [if_neg hik] at hd
    have hx' : (upTo (inPart s) k l)[i]? = some x := by
     rw [upTo_get _ hk]
     by_cases h1 : i < k
     ·rw [if_pos h1]; rwa [if_pos (by omega)] at hx
     ·rw [if_neg h1]; rwa [if_neg (by omega)] at hx
    exact reqR.keep (F6.2 i d x hd hx') p7.keep hkeep
 ·obtain rfl : k = l.length := by omega
  refine AA (BA rfl rfl (by omega) ?_)
  repeat first | refine nx rfl ?_ | refine nf rfl ?_
  refine AA (Ae rfl (AC (Ae rfl ?_)))
  repeat refine nx rfl ?_
  have hm : upTo (inPart s) l.length l = l.map (inPart s) := by simp [upTo]
  rw [hm] at F6
  have S6 := A3 (ok := fresh w) o6 (fun g hg => by have := hsg g hg; simp only [fresh]; omega)
  have hml : (l.map (inPart s)).length = l.length := by simp
  refine AO rfl ⟨k6, l.map (inPart s), t5, r1.bind (r2.bind (r3.bind (Run.call r4 (r5.bind (Run.ret _ _))))), q6, [.slice a l.length c], rfl, _, rfl, a, c, L', by rw [hml], by rw [hml]; exact S6, F6.mono fun b hb => by have := hb.1; simp only [fresh] at this ⊢; omega⟩
end Go.Proofs.YtfcgdbmoncnibaaGreatDoor
namespace Go.Proofs.YtfcgdbmoncnibaaGreatDoor
open Go.RowKit
set_option linter.unusedVariables false
variable {mk : Prop} [MK mk]
theorem BG {l : List Value} (h : l.all (fun v => v.oneCell') = true) : oneC l := fun u hu => List.all_eq_true.1 h u hu
def spcR : Rp Spc where
 fits ok w c x := ∃ sv rv, c = [sv, rv] ∧ SlAt sgnR ok w sv x.sigs ∧ SlAt reqR ok w rv x.reqs
 size := 2
 len h := by obtain ⟨_, _, rfl, _⟩ := h; rfl
 one h := by
  obtain ⟨_, _, rfl, ⟨_, _, _, rfl, _⟩, ⟨_, _, _, rfl, _⟩⟩ := h
  intro u hu; simp at hu; rcases hu with rfl | rfl <;> rfl
 keep h k hX := by
  obtain ⟨sv, rv, e, ⟨a, c, L, e1, h1, h2⟩, ⟨b, d, M, e2, h3, h4⟩⟩ := h
  exact ⟨sv, rv, e, ⟨a, c, L, e1, h1.keep k hX, h2.keep k hX⟩, ⟨b, d, M, e2, h3.keep k hX, h4.keep k hX⟩⟩
 lt h := by
  obtain ⟨sv, rv, e, ⟨a, c, L, e1, h1, h2⟩, ⟨b, d, M, e2, h3, h4⟩⟩ := h
  exact ⟨sv, rv, e, ⟨a, c, L, e1, Sl_ltR (by show 0 < 3; decide) h1 h2, h2.lt⟩, ⟨b, d, M, e2, Sl_ltR (by show 0 < 8; decide) h3 h4, h4.lt⟩⟩
 mono h hk := by
  obtain ⟨sv, rv, e, ⟨a, c, L, e1, h1, h2⟩, ⟨b, d, M, e2, h3, h4⟩⟩ := h
  exact ⟨sv, rv, e, ⟨a, c, L, e1, h1.mono hk, h2.mono hk⟩, ⟨b, d, M, e2, h3.mono hk, h4.mono hk⟩⟩
def edtR : Rp Edt where
 fits ok w c x := ∃ d, c = .int .i64 x.kind :: d ∧ reqR.fits ok w d x.req
 size := 9
 len h := by obtain ⟨d, rfl, h⟩ := h; have := reqR.len h; simp [this]; rfl
 one h := by
  obtain ⟨d, rfl, h⟩ := h
  have := reqR.one h
  intro u hu
  rcases List.mem_cons.1 hu with rfl | hu
  ·rfl
  ·exact this u hu
 keep h k hX := by obtain ⟨d, e, h⟩ := h; exact ⟨d, e, reqR.keep h k hX⟩
 lt h := by obtain ⟨d, e, h⟩ := h; exact ⟨d, e, reqR.lt h⟩
 mono h hk := by obtain ⟨d, e, h⟩ := h; exact ⟨d, e, reqR.mono h hk⟩
def fmlR : Rp Fml where
 fits ok w c x := c.length = 5 ∧ FAt ok w (.agg c.toArray) x
 size := 5
 len h := h.1
 one h := by
  obtain ⟨c', e, _, h1⟩ := h.2.cells
  simp only [Value.agg.injEq] at e
  have e2 := congrArg Array.toList e
  simp only [List.toList_toArray] at e2
  exact e2 ▸ h1
 keep h k hX := ⟨h.1, h.2.keep k hX⟩
 lt h := ⟨h.1, h.2.lt⟩
 mono h hk := ⟨h.1, h.2.mono hk⟩
theorem sees2_inv {s t : List UInt8} {ts ts' : List Tok} {b : Bool} (h : Run (sees2 s t) ts (.ok (b, ts'))) : ts' = ts := by
 cases h.det (Cq s t ts); rfl
theorem lines_cnt : ∀ (n : Nat) (t t' : List Tok) (l : List Rqm), t.length ≤ n → Run (body .lines) t (.ok (l, t')) → l.length + t'.length ≤ t.length := by
 intro n
 induction n with
 | zero =>
  intro t t' l hn h
  obtain ⟨b, t1, r1, h⟩ := Cd h
  have e := sees2_inv r1
  subst e
  cases b with
  | true =>
   obtain ⟨r, t2, r2, h⟩ := call_ok h
   have := line_less r2; omega
  | false => cases h.det (Run.ret _ _); simp
 | succ n ih =>
  intro t t' l hn h
  obtain ⟨b, t1, r1, h⟩ := Cd h
  have e := sees2_inv r1
  subst e
  cases b with
  | true =>
   obtain ⟨r, t2, r2, h⟩ := call_ok h
   obtain ⟨m, t3, r3, h⟩ := call_ok h
   have h2 := line_less r2
   have h3 := ih t2 t3 m (by omega) r3
   cases h.det (Run.ret _ _)
   simp; omega
  | false => cases h.det (Run.ret _ _); simp
theorem part_cnt {t t' : List Tok} {l : List Rqm} (h : Run (body .part) t (.ok (l, t'))) : l.length + t'.length < t.length := by
 obtain ⟨_, t1, r1, h⟩ := Cd h
 obtain ⟨_, t2, r2, h⟩ := Cd h
 obtain ⟨_, t3, r3, h⟩ := Cd h
 obtain ⟨m, t4, r4, h⟩ := call_ok h
 obtain ⟨_, t5, r5, h⟩ := Cd h
 cases h.det (Run.ret _ _)
 have := expect_inv r1; have := r2.le; have := r3.le; have := lines_cnt _ _ _ _ (Nat.le_refl _) r4; have := r5.le
 simp; omega
theorem parts_cnt : ∀ (n : Nat) (t t' : List Tok) (l : List (List Rqm)), t.length ≤ n → Run (body .parts) t (.ok (l, t')) → l.flatten.length + t'.length ≤ t.length := by
 intro n
 induction n with
 | zero =>
  intro t t' l hn h
  obtain ⟨b, t1, r1, h⟩ := Cd h
  have e := sees2_inv r1
  subst e
  cases b with
  | true =>
   obtain ⟨r, t2, r2, h⟩ := call_ok h
   have := part_less r2; omega
  | false => cases h.det (Run.ret _ _); simp
 | succ n ih =>
  intro t t' l hn h
  obtain ⟨b, t1, r1, h⟩ := Cd h
  have e := sees2_inv r1
  subst e
  cases b with
  | true =>
   obtain ⟨r, t2, r2, h⟩ := call_ok h
   obtain ⟨m, t3, r3, h⟩ := call_ok h
   have h2 := part_cnt r2
   have h3 := ih t2 t3 m (by omega) r3
   cases h.det (Run.ret _ _)
   simp only [List.flatten_cons, List.length_append]; omega
  | false => cases h.det (Run.ret _ _); simp
theorem Dc (n : Nat) : ∀ (L : List (List Value)) (k j : Nat) (c : List Value) (v : Value), (∀ c ∈ L, c.length = n) → L[k]? = some c → c[j]? = some v → L.flatten[k * n + j]? = some v
 | [], k, j, c, v, _, h, _ => by simp at h
 | d :: L, 0, j, c, v, h5, h, hv => by
  simp at h; subst h
  rw [List.flatten_cons, Nat.zero_mul, Nat.zero_add, List.getElem?_append_left (List.getElem?_eq_some_iff.1 hv).1]; exact hv
 | d :: L, k + 1, j, c, v, h5, h, hv => by
  have hd := h5 d (by simp)
  rw [List.flatten_cons, List.getElem?_append_right (by rw [hd, Nat.succ_mul]; omega), hd, show (k + 1) * n + j - n = k * n + j by rw [Nat.succ_mul]; omega]
  exact Dc n L k j c v (fun c hc => h5 c (by simp [hc])) (by simpa using h) hv
theorem spec_ok (E : Env) (N : Nat) : ItemR spcR aggV E N 57 (body .spec) := by
 intro w ts h hN
 have hsl := h.st.slt
 unfold PDo
 refine Ar Tryz.func57 rfl Tryz.ntmps57 (Nat.le_of_ble_eq_true rfl) (by kernel_rfl) ?_
 repeat refine nx rfl ?_
 (refine AA ?_; refine Bq (L := [pt E.s]) rfl (fun w1 n1 => ?_))
 refine Ay (fun w2 n2 => ?_)
 have z1 := n1.size
 have z2 := n2.size
 have x2 : Blk w2 w.heap.size 89 [pt E.s] := n1.blk.keep n2.keep (by simp)
 have b2 : Blk w2 w1.heap.size 28 [.slice none 0 0, .slice none 0 0] := n2.blk
 have h2 := (h.ext n1.keep).ext n2.keep
 have k2 : Keep [E.s] w w2 := (n1.keep.trans n2.keep).any
 repeat refine nx rfl ?_
 refine AA (BH rfl rfl (AC (Ct rfl ?_)))
 repeat refine nx rfl ?_
 (refine AA (Ct rfl (AG rfl (Blk.cell (by assumption) (by rfl)) ?_)) <;> refine BH rfl rfl ?_)
 refine Aa (whileSgn_ok E ts.length _ _ [] [pt w.heap.size] _ _ _ whileP_sig w2 ts (declared_ok E w2 _ x2 (by omega)) (signal_ok E _) h2 (Nat.le_refl _)) rfl ?_ ?_
 rotate_left
 ·rintro ch wq ⟨kq, lq, rq, rfl⟩
  repeat refine nx rfl ?_
  exact AY ⟨k2.trans kq (by simp), lq, Run.callE rq, rfl⟩
 rintro sv w3 ⟨k3, l, t3, r3, q3, L, o3, F3⟩
 have h3 := h2.next k3 q3
 have k13 := k2.trans k3 (by simp)
 have z3 := k3.size
 have x3 := x2.keep k3 (by simp <;> omega)
 have b3 := b2.keep k3 (by simp <;> omega)
 have S3 := A3 (ok := fun b => w2.heap.size ≤ b ∧ b < w3.heap.size) o3 (fun g hg => by have := BM o3 hg; omega)
 obtain ⟨sa, sc, rfl, _⟩ := id S3
 refine Ad (by rfl) (by rfl) ?_
 refine BE (cs := [.slice sa l.length sc, .slice none 0 0]) rfl rfl (by rfl) (by intro u hu; simp at hu; rcases hu with rfl | rfl <;> rfl) (fun w4 n4 => ?_)
 have h4 := h3.ext n4.keep
 have k14 := k13.ext n4.keep
 have z4 := n4.size
 have x4 := x3.keep n4.keep (by simp)
 have b4 := b3.keep n4.keep (by simp)
 have e4 := n4.blk
 have S4 := S3.ext n4.keep
 have F4 := F3.ext n4.keep
 repeat refine nx rfl ?_
 (refine AA (AG rfl (Blk.cell (by assumption) (by rfl)) ?_) <;> refine BH rfl rfl (AG rfl (Blk.cell (by assumption) (by rfl)) ?_) <;> refine BH rfl rfl ?_)
 refine Aa (whileReqs_ok E t3.length _ _ [pt E.s] [] _ _ _ whileP_parts w4 t3 (opened_ok E w4) (part_ok E _) h4 (Nat.le_refl _)) rfl ?_ ?_
 rotate_left
 ·rintro ch wq ⟨kq, lq, rq, rfl⟩
  repeat refine nx rfl ?_
  exact AY ⟨k14.trans kq (by simp), lq, Run.call r3 (Run.callE rq), rfl⟩
 rintro pv w5 ⟨k5, m, t5, r5, q5, M, o5, F5⟩
 have h5 := h4.next k5 q5
 have k15 := k14.trans k5 (by simp)
 have z5 := k5.size
 have b5 := b4.keep k5 (by simp <;> omega)
 have e5 := e4.keep k5 (by simp <;> omega)
 have S5 := S4.keep k5 (fun b hb => by simp; omega)
 have P5 := A3 (ok := fun b => w4.heap.size ≤ b ∧ b < w5.heap.size) o5 (fun g hg => BM o5 hg)
 have F5' : RsAt reqsR (fun b => w4.heap.size ≤ b ∧ b < w5.heap.size) w5 M m := F5.lt.mono fun b hb => ⟨hb.1.1, hb.2⟩
 obtain ⟨pa, pc, rfl, _⟩ := id P5
 have hts := h.st.cnt
 have hc3 := (show t3 <:+ ts from Run.suffix r3).length_le
 have hcnt := parts_cnt _ _ _ _ (Nat.le_refl _) r5
 have hmm : m.length ≤ 9223372036854775807 := by
  obtain ⟨_, _, hv, g1, g2, _⟩ := id P5
  cases hv; omega
 refine As rfl (AF rfl ?_)
 repeat refine nx rfl ?_
 refine BJ (α := Nat × Value × List (List Value)) (fun x => [(2, pt w1.heap.size), (4, pt w3.heap.size), (17, .slice pa m.length pc), (18, .int .i64 (m.length : Int)), (19, .int .i64 (x.1 : Int))])
  (fun x W => x.1 ≤ m.length ∧ Keep [E.s] w W ∧ PSt W E t5 ∧ w5.heap.size ≤ W.heap.size ∧ Blk W w1.heap.size 28 [.slice none 0 0, .slice none 0 0] ∧ Blk W w3.heap.size 28 [.slice sa l.length sc, x.2.1] ∧
   Sl (fun b => w2.heap.size ≤ b ∧ b < w3.heap.size) W (.slice sa l.length sc) l.length L.flatten ∧ Sl (fun b => w4.heap.size ≤ b ∧ b < w5.heap.size) W (.slice pa m.length pc) m.length M.flatten ∧ RsAt reqsR (fun b => w4.heap.size ≤ b ∧ b < w5.heap.size) W M m ∧
   W.ownsRow w5.heap.size 30 8 x.2.1 (m.take x.1).flatten.length x.2.2.flatten ∧ RsAt reqR (fun b => w4.heap.size ≤ b ∧ b < w5.heap.size) W x.2.2 (m.take x.1).flatten) (fun x => m.length - x.1) (0, .slice none 0 0, []) ⟨rfl, rfl, rfl, rfl, rfl, trivial⟩
  ⟨by simp, k15, q5, Nat.le_refl _, b5, e5, S5, P5, F5', ⟨by simp, .inl ⟨rfl, rfl⟩⟩, RsAt.nil⟩ ?_
 rintro ⟨k, rv, Q⟩ w6 f6 ⟨hk, k6, q6, z6, b6, e6, S6, P6, F6, o6, G6⟩
 simp only at hk o6 G6 e6 ⊢
 repeat refine nx rfl ?_
 have hb1 : w1.heap.size < w3.heap.size := by omega
 by_cases hlt : k < m.length
 ·obtain ⟨c, hc⟩ : ∃ c, M[k]? = some c := ⟨_, List.getElem?_eq_getElem (by rw [F6.1]; exact hlt)⟩
  obtain ⟨rs, hrs⟩ : ∃ rs, m[k]? = some rs := ⟨_, List.getElem?_eq_getElem hlt⟩
  obtain ⟨pv, rfl, va, vc, V, rfl, SV, FV⟩ := F6.2 k c rs hc hrs
  obtain ⟨b, o, rfl, hb, hcell⟩ : ∃ b o, pa = some ⟨b, o, none⟩ ∧ (w4.heap.size ≤ b ∧ b < w5.heap.size) ∧ w6.cell? ⟨b, o + k, none⟩ = some (.slice va rs.length vc) := by
   obtain ⟨a', cap, hv, g1, g2, g3, g4⟩ := id P6
   cases hv
   obtain ⟨b, o, rfl, hb, hcc⟩ := g4.resolve_left (by omega)
   refine ⟨b, o, rfl, hb, hcc k _ ?_⟩
   have := Dc 1 M k 0 _ _ F6.len hc rfl
   simpa using this
  have etk : m.take (k + 1) = m.take k ++ [rs] := by rw [List.take_add_one, hrs]; rfl
  have hcr : (m.take (k + 1)).flatten.length ≤ m.flatten.length := by
   have e1 := congrArg (fun x => x.flatten.length) (List.take_append_drop (k + 1) m)
   simp only [List.flatten_append, List.length_append] at e1; omega
  have etl : (m.take (k + 1)).flatten.length = (m.take k).flatten.length + rs.length := by rw [etk]; simp
  obtain ⟨ra, rc, rfl⟩ : ∃ ra rc, rv = .slice ra (m.take k).flatten.length rc := by
   rcases o6.2 with ⟨rfl, h0⟩ | ⟨g, cap, cur, rfl, _⟩
   ·exact ⟨none, 0, by rw [h0]⟩
   ·exact ⟨_, _, rfl⟩
  have hown : ∀ x ∈ (Value.slice ra (m.take k).flatten.length rc).ownBlock.toList, w5.heap.size ≤ x := fun x hx => (BM o6 (Option.mem_toList.1 hx)).1
  refine AA (BC rfl rfl (by omega) ?_)
  repeat refine nx rfl ?_
  (refine AA (W_idx1 rfl rfl rfl (by omega) (AG rfl (by assumption) ?_)) <;> refine AC (Ae rfl ?_))
  repeat refine nx rfl ?_
  (refine AA (AD rfl (AG rfl (Blk.cell (by assumption) (by rfl)) ?_)) <;> refine Ae rfl ?_)
  refine Bl (v := .slice ra (m.take k).flatten.length rc) (sv := .slice va rs.length vc) rfl rfl o6 SV (by omega) rfl FV.flat FV.oneC (by omega) (by omega) (by omega) (fun v7 w7 a7 => ?_)
  have o7 := a7.own
  have z7 := a7.keep.size
  have hkp : ∀ b, b < w5.heap.size → b ∉ (Value.slice ra (m.take k).flatten.length rc).ownBlock.toList := fun b hb hx => by have := hown b hx; omega
  have e7 := e6.keep a7.keep (hkp _ (by omega))
  have b7 := b6.keep a7.keep (hkp _ (by omega))
  have S7 := S6.keep a7.keep (fun b hb => hkp b (by omega))
  have P7 := P6.keep a7.keep (fun b hb => hkp b hb.2)
  have F7 := F6.keep a7.keep (fun b hb => hkp b hb.2)
  have G7 := (G6.app FV).keep a7.keep (fun b hb => hkp b hb.2)
  have k7 := k6.trans a7.keep (fun x hx hlt => by have := hown x hx; omega)
  have q7 := q6.keep a7.keep (fun x hx => by have := hown x hx; omega)
  obtain ⟨va7, vc7, rfl⟩ : ∃ va7 vc7, v7 = .slice va7 ((m.take k).flatten.length + rs.length) vc7 := by
   rcases o7.2 with ⟨rfl, h0⟩ | ⟨g, cap, cur, rfl, _⟩
   ·exact ⟨none, 0, by rw [h0]⟩
   ·exact ⟨_, _, rfl⟩
  refine AD rfl ?_
  refine Ao rfl rfl rfl e7 (by simp) (fun w8 p8 => ?_)
  have z8 := p8.size
  have hk8 : ∀ b, b ≠ w3.heap.size → b ∉ [w3.heap.size] := fun b hb hx => hb (by simpa using hx)
  repeat refine nx rfl ?_
  (refine AA (BK rfl rfl (by first | exact Am (by omega) (by omega) | exact At (by omega) (by omega) | exact Al (by omega) (by omega)) ?_) <;> refine AF rfl ?_)
  repeat refine nx rfl ?_
  refine ⟨(k + 1, .slice va7 ((m.take k).flatten.length + rs.length) vc7, Q ++ V), ⟨rfl, ⟨rfl, rfl, rfl, rfl, ?_, trivial⟩, ⟨by simp only; omega, k7.trans p8.keep (by simp <;> omega), q7.keep p8.keep (by simp <;> omega), by omega, b7.keep p8.keep (hk8 _ (by omega)), p8.blk, S7.keep p8.keep (fun b hb => hk8 _ (by omega)), P7.keep p8.keep (fun b hb => hk8 _ (by omega)), F7.keep p8.keep (fun b hb => hk8 _ (by omega)), ?_, ?_⟩⟩, by simp only; omega⟩
  ·show Value.int .i64 ((k : Int) + 1) = _
   rw [Int.natCast_add]; rfl
  ·have := Ax o7 p8.keep (fun g hg => hk8 g (by have := BM o7 hg; omega))
   simp only [etl, List.flatten_append]
   exact this
  ·simp only [etk, List.flatten_append]
   have := G7.keep p8.keep (fun b hb => hk8 _ (by omega))
   simpa using this
 ·obtain rfl : k = m.length := by omega
  rw [List.take_length] at o6 G6
  refine AA (BA rfl rfl (by omega) ?_)
  repeat first | refine nx rfl ?_ | refine nf rfl ?_
  have hr6 := A3 (ok := fresh w) o6 (fun g hg => by have := BM o6 hg; simp only [fresh]; omega)
  obtain ⟨ra, rc, rfl, _⟩ := id hr6
  refine AA (AX rfl e6 rfl ?_)
  refine AZ (cs := [.slice sa l.length sc, .slice ra m.flatten.length rc]) rfl rfl rfl (by intro u hu; simp at hu; rcases hu with rfl | rfl <;> rfl) b6 (by simp) (fun w7 p7 => ?_)
  repeat refine nx rfl ?_
  have b7 : Blk w7 w1.heap.size 28 [.slice sa l.length sc, .slice ra m.flatten.length rc] := p7.blk
  have hk7 : ∀ b, b ≠ w1.heap.size → b ∉ [w1.heap.size] := fun b hb hx => hb (by simpa using hx)
  have F6s : RsAt sgnR (fun b => b ≠ w1.heap.size ∧ fresh w b) w6 L l := ⟨F4.1, fun i c a hc ha => F4.2 i c a hc ha⟩
  have R7 := A3 (ok := fun b => b ≠ w1.heap.size ∧ fresh w b) o6 (fun g hg => by have := BM o6 hg; simp only [fresh]; omega)
  refine A6 rfl rfl rfl b7.cells ⟨k6.trans p7.keep (by simp <;> omega), ⟨l, m.flatten⟩, t5, Run.call r3 (Run.call r5 (Run.ret _ _)), q6.keep p7.keep (by simp <;> omega), _, rfl, _, _, rfl, ⟨_, _, L, rfl, ?_, ?_⟩, ⟨_, _, Q, rfl, ?_, ?_⟩⟩
  ·exact (S6.mono (ok' := fun b => b ≠ w1.heap.size ∧ fresh w b) (fun b hb => by simp only [fresh]; omega)).keep p7.keep (fun b hb => hk7 b hb.1) |>.mono fun b hb => hb.2
  ·exact (F6s.keep p7.keep (fun b hb => hk7 b hb.1)).mono fun b hb => hb.2
  ·exact (R7.keep p7.keep (fun b hb => hk7 b hb.1)).mono fun b hb => hb.2
  ·exact ((G6.mono (ok' := fun b => b ≠ w1.heap.size ∧ fresh w b) (fun b hb => by simp only [fresh]; omega)).keep p7.keep (fun b hb => hk7 b hb.1)).mono fun b hb => hb.2
end Go.Proofs.YtfcgdbmoncnibaaGreatDoor
