/- The parser: signals, requirements. The parser: parts, specifications, edits. The parser: specifications, edits. The reference: formulas compared. The reference: formulas built, requirements compared. The reference: requirements, signals, specifications, edits compared. Conditions: none. -/
import Derived.Test.YtfcgdbmoncnibaaGreatDoorZB5

namespace Go.Proofs.YtfcgdbmoncnibaaGreatDoor
open Go.RowKit
set_option linter.unusedVariables false
variable {mk : Prop} [MK mk]
def zero8 : List Value := [AM [], AM [], .int .i64 0, .int .i64 0, AM [], .int .i64 0, .int .i64 0, .slice none 0 0]
theorem signal_ok (E : Env) (N : Nat) : ItemR sgnR aggV E N 95 (body .signal) := by
 intro w ts h hN
 have hsl := h.st.slt
 unfold PDo
 refine Ao Tryz.func95 rfl Tryz.ntmps95 (Nat.le_of_ble_eq_true rfl) (by kernel_rfl) ?_
 repeat' first | refine nx rfl ?_ | fail
 (refine AA ?_)
 refine Au (fun w1 n1 => ?_)
 have b1 : Blk w1 w.heap.size 72 [AM [], .bool false, .int .i64 0] := n1.blk
 have z1 := n1.size
 have h1 := h.ext n1.keep
 have k1 : Keep [E.s] w w1 := n1.keep.any
 repeat' first | refine nx rfl ?_ | fail
 refine AA (AO rfl ?_)
 refine AS (Bl E w1 ts [105, 110, 112, 117, 116] h1.st) rfl ?_
 rintro _ w2 ⟨k2, i, t2, rfl, r2, q2⟩
 have h2 := h1.next k2 q2
 have b2 := b1.keep k2 (by simp <;> omega)
 have k12 := k1.trans k2 (by simp)
 have z2 := k2.size
 (refine Ae (by rfl) (by rfl) ?_)
 refine A6 (cs := [AM [], .bool i, .int .i64 2]) rfl rfl (by rfl) (by intro u hu; simp at hu; rcases hu with rfl | rfl | rfl <;> rfl) (fun w3 n3 => ?_)
 have h3 := h2.ext n3.keep
 have b3 := b2.keep n3.keep (by simp)
 have z3 := n3.size
 have e3 := n3.blk
 have k13 := k12.ext n3.keep
 repeat' first | refine nx rfl ?_ | fail
 (refine AA (AD rfl ?_) <;> refine AG rfl (Blk.cell (by assumption) (by rfl)) ?_ <;> refine A7 rfl ?_)
 repeat' first | refine nx rfl ?_ | fail
 refine B4 (α := List Tok) (fun _ => [(0, pt E.s), (2, pt w.heap.size), (3, pt w2.heap.size)])
  (fun t W => Run (if i then .ret () else CQ [111, 117, 116, 112, 117, 116] : G Unit) t2 (.ok ((), t)) ∧ PW W E t ∧ Keep [E.s] w W ∧ w3.heap.size ≤ W.heap.size ∧ Blk W w.heap.size 72 [AM [], .bool false, .int .i64 0] ∧ Blk W w2.heap.size 72 [AM [], .bool i, .int .i64 2]) ?_ ?_
 ·cases i with
  | true =>
   repeat' first | refine nx rfl ?_ | refine nf rfl ?_
   exact Ap t2 ⟨rfl, rfl, rfl, trivial⟩ ⟨Run.ret _ _, h3, k13, Nat.le_refl _, b3, e3⟩
  | false =>
   repeat' first | refine nx rfl ?_ | fail
   refine AA (AO rfl ?_)
   refine AZ (CM E w3 t2 [111, 117, 116, 112, 117, 116] h3.st) rfl ?_ ?_
   rotate_left
   ·rintro ch wq ⟨kq, lq, rq, rfl⟩
    repeat' first | refine nx rfl ?_ | fail
    exact AX ⟨k13.trans kq (by simp), lq, r2.bind (Run.bindE rq), rfl⟩
   rintro v w4 ⟨k4, _, t4, r4, q4, rfl⟩
   repeat' first | refine nx rfl ?_ | fail
   exact Ap t4 ⟨rfl, rfl, rfl, trivial⟩ ⟨r4, h3.next k4 q4, k13.trans k4 (by simp), k4.size, b3.keep k4 (by simp <;> omega), e3.keep k4 (by simp <;> omega)⟩
 rintro t4 w4 f4 ⟨r4, h4, k14, z4, b4, e4⟩
 repeat' first | refine nx rfl ?_ | fail
 refine AA (AO rfl ?_)
 refine AZ (pname_ok E w4 t4 h4.st h4.gk) rfl ?_ ?_
 rotate_left
 ·rintro ch wq ⟨kq, lq, rq, rfl⟩
  repeat' first | refine nx rfl ?_ | fail
  exact AX ⟨k14.trans kq (by simp), lq, r2.bind (r4.bind (Run.bindE rq)), rfl⟩
 rintro v w5 ⟨k5, s, t5, r5, q5, rfl, hs⟩
 have h5 := h4.next k5 q5
 have b5 := b4.keep k5 (by simp <;> omega)
 have e5 := e4.keep k5 (by simp <;> omega)
 have k15 := k14.trans k5 (by simp)
 have z5 := k5.size
 (refine AD rfl ?_)
 refine Am rfl rfl rfl e5 (by simp) (fun w6 p6 => ?_)
 have h6 := h5.keep p6.keep (by simp <;> omega)
 have b6 := b5.keep p6.keep (by simp <;> omega)
 have e6 : Blk w6 w2.heap.size 72 [AM s, .bool i, .int .i64 2] := p6.blk
 have k16 := k15.trans p6.keep (by simp <;> omega)
 have z6 := p6.size
 repeat' first | refine nx rfl ?_ | fail
 refine AA (AO rfl ?_)
 refine AS (Bl E w6 t5 [58] h6.st) rfl ?_
 rintro _ w7 ⟨k7, c, t7, rfl, r7, q7⟩
 have h7 := h6.next k7 q7
 have b7 := b6.keep k7 (by simp <;> omega)
 have e7 := e6.keep k7 (by simp <;> omega)
 have k17 := k16.trans k7 (by simp)
 have z7 := k7.size
 repeat' first | refine nx rfl ?_ | fail
 refine B4 (α := List Tok × Int) (fun _ => [(0, pt E.s), (2, pt w.heap.size), (3, pt w2.heap.size)])
  (fun x W => Run ((BO [58]).bind fun b => if b then numberG else .ret 2) t5 (.ok (x.2, x.1)) ∧ PW W E x.1 ∧ Keep [E.s] w W ∧ w3.heap.size ≤ W.heap.size ∧ Blk W w.heap.size 72 [AM [], .bool false, .int .i64 0] ∧ Blk W w2.heap.size 72 [AM s, .bool i, .int .i64 x.2]) ?_ ?_
 ·cases c with
  | true =>
   repeat' first | refine nx rfl ?_ | fail
   refine AA (AO rfl ?_)
   refine AZ (number_ok E w7 t7 h7.st) rfl ?_ ?_
   rotate_left
   ·rintro ch wq ⟨kq, lq, rq, rfl⟩
    repeat' first | refine nx rfl ?_ | fail
    exact AX ⟨k17.trans kq (by simp), lq, r2.bind (r4.bind (r5.bind (Run.bindE (r7.bind rq)))), rfl⟩
   rintro v w8 ⟨k8, n, t8, r8, q8, rfl, hn0, hn1⟩
   have h8 := h7.next k8 q8
   have b8 := b7.keep k8 (by simp <;> omega)
   have e8 := e7.keep k8 (by simp <;> omega)
   have z8 := k8.size
   (refine AD rfl ?_)
   refine Am rfl rfl rfl e8 (by simp) (fun w9 p9 => ?_)
   have z9 := p9.size
   repeat' first | refine nx rfl ?_ | fail
   exact Ap (t8, n) ⟨rfl, rfl, rfl, trivial⟩ ⟨r7.bind r8, h8.keep p9.keep (by simp <;> omega), (k17.trans k8 (by simp)).trans p9.keep (by simp <;> omega), by omega, b8.keep p9.keep (by simp <;> omega), p9.blk⟩
  | false =>
   repeat' first | refine nx rfl ?_ | refine nf rfl ?_
   exact Ap (t7, 2) ⟨rfl, rfl, rfl, trivial⟩ ⟨r7.bind (Run.ret _ _), h7, k17, by omega, b7, e7⟩
 rintro ⟨t8, n⟩ w8 f8 ⟨r8, h8, k18, z8, b8, e8⟩
 simp only at r8 h8 e8
 repeat' first | refine nx rfl ?_ | fail
 refine AA (AO rfl ?_)
 refine AZ (CM E w8 t8 [59] h8.st) rfl ?_ ?_
 rotate_left
 ·rintro ch wq ⟨kq, lq, rq, rfl⟩
  repeat' first | refine nx rfl ?_ | fail
  exact AX ⟨k18.trans kq (by simp), lq, r2.bind (r4.bind (r5.bind (r8.bind (Run.bindE rq)))), rfl⟩
 rintro v w9 ⟨k9, _, t9, r9, q9, rfl⟩
 have b9 := b8.keep k9 (by simp <;> omega)
 have e9 := e8.keep k9 (by simp <;> omega)
 repeat' first | refine nx rfl ?_ | fail
 (refine AA ?_; refine AY rfl e9 rfl ?_)
 refine Ad (cs := [AM s, .bool i, .int .i64 n]) rfl rfl rfl (by intro u hu; simp at hu; rcases hu with rfl | rfl | rfl <;> rfl) b9 (by simp) (fun w10 p10 => ?_)
 repeat' first | refine nx rfl ?_ | fail
 have b10 : Blk w10 w.heap.size 72 [AM s, .bool i, .int .i64 n] := p10.blk
 exact Az rfl rfl rfl b10.cells ⟨(k18.trans k9 (by simp)).trans p10.keep (by simp <;> omega), ⟨s, i, n⟩, t9, r2.bind (r4.bind (r5.bind (r8.bind (r9.bind (Run.ret _ _))))), q9.keep p10.keep (by simp <;> omega), _, rfl, rfl⟩
theorem requirement_ok (E : Env) (N : Nat) : ItemR reqR aggV E N 110 (body .req) := by
 intro w ts h hN
 have hsl := h.st.slt
 unfold PDo
 refine Ao Tryz.func110 rfl Tryz.ntmps110 (Nat.le_of_ble_eq_true rfl) (by kernel_rfl) ?_
 repeat' first | refine nx rfl ?_ | fail
 (refine AA ?_)
 refine Au (fun w1 n1 => ?_)
 have b1 : Blk w1 w.heap.size 30 zero8 := n1.blk
 have z1 := n1.size
 have h1 := h.ext n1.keep
 have k1 : Keep [E.s] w w1 := n1.keep.any
 repeat' first | refine nx rfl ?_ | fail
 (refine AA ?_ <;> refine Ae (by rfl) (by rfl) ?_)
 refine A6 (cs := [AM [], AM [], .int .i64 1, .int .i64 0, AM [], .int .i64 0, .int .i64 0, .slice none 0 0]) rfl rfl (by rfl) (by intro u hu; simp at hu; rcases hu with rfl | rfl | rfl | rfl | rfl | rfl <;> rfl) (fun w3 n3 => ?_)
 have h3 := h1.ext n3.keep
 have b3 := b1.keep n3.keep (by simp)
 have z3 := n3.size
 have e3 := n3.blk
 have k13 := k1.ext n3.keep
 repeat' first | refine nx rfl ?_ | fail
 refine AA (AO rfl ?_)
 refine AS (Bl E w3 ts [97, 115, 115, 117, 109, 101] h3.st) rfl ?_
 rintro _ w2 ⟨k2, i, t2, rfl, r2, q2⟩
 have h2 := h3.next k2 q2
 have b2 := b3.keep k2 (by simp <;> omega)
 have e2 := e3.keep k2 (by simp <;> omega)
 have k12 := k13.trans k2 (by simp)
 have z2 := k2.size
 (refine A7 rfl ?_)
 repeat' first | refine nx rfl ?_ | fail
 refine B4 (α := List Tok × Int) (fun _ => [(0, pt E.s), (2, pt w.heap.size), (3, pt w1.heap.size)])
  (fun x W => Run (if i then .ret 1 else (CQ [103, 117, 97, 114, 97, 110, 116, 101, 101]).bind fun _ => .ret 2 : G Int) t2 (.ok (x.2, x.1)) ∧ PW W E x.1 ∧ Keep [E.s] w W ∧ w3.heap.size ≤ W.heap.size ∧ Blk W w.heap.size 30 zero8 ∧ Blk W w1.heap.size 30 [AM [], AM [], .int .i64 x.2, .int .i64 0, AM [], .int .i64 0, .int .i64 0, .slice none 0 0]) ?_ ?_
 ·cases i with
  | true =>
   repeat' first | refine nx rfl ?_ | refine nf rfl ?_
   exact Ap (t2, 1) ⟨rfl, rfl, rfl, trivial⟩ ⟨Run.ret _ _, h2, k12, by omega, b2, e2⟩
  | false =>
   repeat' first | refine nx rfl ?_ | fail
   refine AA (AO rfl ?_)
   refine AZ (CM E w2 t2 [103, 117, 97, 114, 97, 110, 116, 101, 101] h2.st) rfl ?_ ?_
   rotate_left
   ·rintro ch wq ⟨kq, lq, rq, rfl⟩
    repeat' first | refine nx rfl ?_ | fail
    exact AX ⟨k12.trans kq (by simp), lq, r2.bind (Run.bindE (Run.bindE rq)), rfl⟩
   rintro v w4 ⟨k4, _, t4, r4, q4, rfl⟩
   have e4 := e2.keep k4 (by simp <;> omega)
   have z4 := k4.size
   repeat' first | refine nx rfl ?_ | fail
   refine AA (AD rfl ?_)
   refine Am rfl rfl rfl e4 (by simp) (fun w5 p5 => ?_)
   have z5 := p5.size
   repeat' first | refine nx rfl ?_ | fail
   exact Ap (t4, 2) ⟨rfl, rfl, rfl, trivial⟩ ⟨r4.bind (Run.ret _ _), (h2.next k4 q4).keep p5.keep (by simp <;> omega), (k12.trans k4 (by simp)).trans p5.keep (by simp <;> omega), by omega, (b2.keep k4 (by simp <;> omega)).keep p5.keep (by simp <;> omega), p5.blk⟩
 rintro ⟨t4, kd⟩ w4 f4 ⟨r4, h4, k14, z4, b4, e4⟩
 simp only at r4 h4 e4
 repeat' first | refine nx rfl ?_ | fail
 refine AA (AO rfl ?_)
 refine AZ (pname_ok E w4 t4 h4.st h4.gk) rfl ?_ ?_
 rotate_left
 ·rintro ch wq ⟨kq, lq, rq, rfl⟩
  repeat' first | refine nx rfl ?_ | fail
  exact AX ⟨k14.trans kq (by simp), lq, r2.bind (r4.bind (Run.bindE rq)), rfl⟩
 rintro v w5 ⟨k5, s, t5, r5, q5, rfl, hs⟩
 have h5 := h4.next k5 q5
 have b5 := b4.keep k5 (by simp <;> omega)
 have e5 := e4.keep k5 (by simp <;> omega)
 have k15 := k14.trans k5 (by simp)
 have z5 := k5.size
 (refine AD rfl ?_)
 refine Am rfl rfl rfl e5 (by simp) (fun w6 p6 => ?_)
 have h6 := h5.keep p6.keep (by simp <;> omega)
 have b6 := b5.keep p6.keep (by simp <;> omega)
 have e6 : Blk w6 w1.heap.size 30 [AM [], AM s, .int .i64 kd, .int .i64 0, AM [], .int .i64 0, .int .i64 0, .slice none 0 0] := p6.blk
 have k16 := k15.trans p6.keep (by simp <;> omega)
 have z6 := p6.size
 repeat' first | refine nx rfl ?_ | fail
 refine AA (AO rfl ?_)
 refine AZ (CM E w6 t5 [58] h6.st) rfl ?_ ?_
 rotate_left
 ·rintro ch wq ⟨kq, lq, rq, rfl⟩
  repeat' first | refine nx rfl ?_ | fail
  exact AX ⟨k16.trans kq (by simp), lq, r2.bind (r4.bind (r5.bind (Run.bindE rq))), rfl⟩
 rintro v w7 ⟨k7, _, t7, r7, q7, rfl⟩
 have h7 := h6.next k7 q7
 have b7 := b6.keep k7 (by simp <;> omega)
 have e7 := e6.keep k7 (by simp <;> omega)
 have k17 := k16.trans k7 (by simp)
 have z7 := k7.size
 repeat' first | refine nx rfl ?_ | fail
 refine AA (AO rfl ?_)
 refine AZ ((formulas_ok E t7.length).2.2.2 w7 t7 h7 (Nat.le_refl _)) rfl ?_ ?_
 rotate_left
 ·rintro ch wq ⟨kq, lq, rq, rfl⟩
  repeat' first | refine nx rfl ?_ | fail
  exact AX ⟨k17.trans kq (by simp), lq, r2.bind (r4.bind (r5.bind (r7.bind (Run.callE rq)))), rfl⟩
 rintro v w8 ⟨k8, g, t8, r8, q8, f8⟩
 have b8 := b7.keep k8 (by simp <;> omega)
 have e8 := e7.keep k8 (by simp <;> omega)
 have k18 := k17.trans k8 (by simp)
 have z8 := k8.size
 obtain ⟨cs, rfl, hcs, hone⟩ := f8.cells
 obtain ⟨c0, c1, c2, c3, c4, rfl⟩ := CF hcs
 (refine AD rfl ?_)
 refine Ad (cs := [c0, c1, c2, c3, c4]) rfl rfl rfl hone e8 (by simp) (fun w9 p9 => ?_)
 have b9 := b8.keep p9.keep (by simp <;> omega)
 have e9 : Blk w9 w1.heap.size 30 [AM [], AM s, .int .i64 kd, c0, c1, c2, c3, c4] := p9.blk
 have f9 := f8.keep p9.keep (by intro b hb; simp [fresh] at hb ⊢; omega)
 have z9 := p9.size
 repeat' first | refine nx rfl ?_ | fail
 (refine AA ?_; refine AY rfl e9 rfl ?_)
 have hone8 : oneC [AM [], AM s, .int .i64 kd, c0, c1, c2, c3, c4] := by
  intro u hu
  simp only [List.mem_cons, List.not_mem_nil, or_false] at hu
  rcases hu with rfl | rfl | rfl | hu
  ·rfl
  ·rfl
  ·rfl
  ·exact hone u (by simp only [List.mem_cons, List.not_mem_nil, or_false]; exact hu)
 refine Ad (cs := [AM [], AM s, .int .i64 kd, c0, c1, c2, c3, c4]) rfl rfl rfl hone8 b9 (by simp [zero8]) (fun w10 p10 => ?_)
 repeat' first | refine nx rfl ?_ | fail
 have b10 : Blk w10 w.heap.size 30 [AM [], AM s, .int .i64 kd, c0, c1, c2, c3, c4] := p10.blk
 have f10 := f9.keep p10.keep (by intro b hb; simp [fresh] at hb ⊢; omega)
 exact Az rfl rfl rfl b10.cells ⟨(k18.trans p9.keep (by simp <;> omega)).trans p10.keep (by simp <;> omega), ⟨[], s, kd, g⟩, t8, r2.bind (r4.bind (r5.bind (r7.bind (Run.call r8 (Run.ret _ _))))), (q8.keep p9.keep (by simp <;> omega)).keep p10.keep (by simp <;> omega), _, rfl, [c0, c1, c2, c3, c4], rfl, rfl, f10.mono fun b hb => by simp only [fresh] at hb ⊢; omega⟩
theorem line_ok (E : Env) (N : Nat) : ItemR reqR aggV E N 132 (body .line) := by
 intro w ts h hN
 have hsl := h.st.slt
 unfold PDo
 refine Ao Tryz.func132 rfl Tryz.ntmps132 (Nat.le_of_ble_eq_true rfl) (by kernel_rfl) ?_
 repeat' first | refine nx rfl ?_ | fail
 (refine AA ?_)
 refine Au (fun w1 n1 => ?_)
 have b1 : Blk w1 w.heap.size 30 zero8 := n1.blk
 have z1 := n1.size
 have h1 := h.ext n1.keep
 have k1 : Keep [E.s] w w1 := n1.keep.any
 repeat' first | refine nx rfl ?_ | fail
 refine AA (AO rfl ?_)
 refine AZ (requirement_ok E N w1 ts h1 hN) rfl ?_ ?_
 rotate_left
 ·rintro ch wq ⟨kq, lq, rq, rfl⟩
  repeat' first | refine nx rfl ?_ | fail
  exact AX ⟨k1.trans kq (by simp), lq, Run.callE rq, rfl⟩
 rintro v w2 ⟨k2, r, t2, r2, q2, c, rfl, f2⟩
 have h2 := h1.next k2 q2
 have b2 := b1.keep k2 (by simp <;> omega)
 have k12 := k1.trans k2 (by simp)
 have z2 := k2.size
 have hcl : c.length = 8 := reqR.len f2
 have hco := reqR.one f2
 refine A6 (cs := c) rfl hcl (by rfl) hco (fun w3 n3 => ?_)
 have h3 := h2.ext n3.keep
 have b3 := b2.keep n3.keep (by simp)
 have f3 := reqR.ext f2 n3.keep
 have z3 := n3.size
 have e3 := n3.blk
 have k13 := k12.ext n3.keep
 repeat' first | refine nx rfl ?_ | fail
 refine AA (AO rfl ?_)
 refine AZ (CM E w3 t2 [59] h3.st) rfl ?_ ?_
 rotate_left
 ·rintro ch wq ⟨kq, lq, rq, rfl⟩
  repeat' first | refine nx rfl ?_ | fail
  exact AX ⟨k13.trans kq (by simp), lq, Run.call r2 (Run.bindE rq), rfl⟩
 rintro v w4 ⟨k4, _, t4, r4, q4, rfl⟩
 have b4 := b3.keep k4 (by simp <;> omega)
 have e4 := e3.keep k4 (by simp <;> omega)
 have f4 := reqR.keep f3 k4 (by intro b hb; simp [fresh] at hb ⊢; omega)
 have z4 := k4.size
 repeat' first | refine nx rfl ?_ | fail
 (refine AA ?_; refine AY rfl e4 hcl ?_)
 refine Ad (cs := c) rfl rfl hcl hco b4 (by simp [zero8]) (fun w5 p5 => ?_)
 repeat' first | refine nx rfl ?_ | fail
 have b5 : Blk w5 w.heap.size 30 c := by
  have := p5.blk
  rw [Bh zero8 c hcl] at this
  exact this
 have f5 := reqR.keep f4 p5.keep (by intro b hb; simp [fresh] at hb ⊢; omega)
 exact Az rfl rfl hcl b5.cells ⟨(k13.trans k4 (by simp)).trans p5.keep (by simp <;> omega), r, t4, Run.call r2 (r4.bind (Run.ret _ _)), q4.keep p5.keep (by simp <;> omega), c, rfl, reqR.mono f5 fun b hb => by simp only [fresh] at hb ⊢; omega⟩
end Go.Proofs.YtfcgdbmoncnibaaGreatDoor
namespace Go.Proofs.YtfcgdbmoncnibaaGreatDoor
open Go.RowKit
set_option linter.unusedVariables false
variable {mk : Prop} [MK mk]
theorem run_sees2 (s t : List UInt8) (ts : List Tok) : Run (sees2 s t) ts (.ok (CI s (ts.head?.map bare) || CI t (ts.head?.map bare), ts)) := Run.look (Run.ret _ _)
theorem opened_ok (E : Env) (w : World) : MoreOk E w 97 [pt E.s] [] (sees2 [112, 97, 114, 116] [112, 97, 114, 116]) := by
 intro w ts _ h
 show Fn Tryz.prog _ [pt E.s] _ _
 refine Ac Tryz.func97 rfl Tryz.ntmps97 (Nat.le_of_ble_eq_true rfl) (by kernel_rfl) ?_
 repeat' first | refine nx rfl ?_ | fail
 refine AA (AC (AB rfl ?_))
 repeat' first | refine nx rfl ?_ | fail
 refine AA (AO rfl ?_)
 refine AS (sees_ok E w ts [112, 97, 114, 116] h.st) rfl ?_
 rintro v w' ⟨rfl, rfl⟩
 ((refine AC ?_; refine AB rfl ?_))
 repeat' first | refine nx rfl ?_ | fail
 refine AP rfl ⟨_, rfl, ?_, rfl⟩
 have := run_sees2 [112, 97, 114, 116] [112, 97, 114, 116] ts
 rwa [Bool.or_self] at this
theorem required_ok (E : Env) (w : World) : MoreOk E w 131 [pt E.s] [] (sees2 [97, 115, 115, 117, 109, 101] [103, 117, 97, 114, 97, 110, 116, 101, 101]) := by
 intro w ts _ h
 show Fn Tryz.prog _ [pt E.s] _ _
 refine Ac Tryz.func131 rfl Tryz.ntmps131 (Nat.le_of_ble_eq_true rfl) (by kernel_rfl) ?_
 repeat' first | refine nx rfl ?_ | fail
 refine AA (AC (AB rfl ?_))
 repeat' first | refine nx rfl ?_ | fail
 refine AA (AO rfl ?_)
 refine AS (sees_ok E w ts [97, 115, 115, 117, 109, 101] h.st) rfl ?_
 rintro v w' ⟨rfl, rfl⟩
 have hr := run_sees2 [97, 115, 115, 117, 109, 101] [103, 117, 97, 114, 97, 110, 116, 101, 101] ts
 cases hb : CI [97, 115, 115, 117, 109, 101] (ts.head?.map bare) with
 | true =>
  refine AB rfl (AJ rfl ?_)
  refine AJ rfl (AL rfl (AB rfl (AC (AB rfl ?_))))
  repeat' first | refine nx rfl ?_ | fail
  refine AP rfl ⟨_, rfl, ?_, rfl⟩
  rw [hb] at hr; exact hr
 | false =>
  refine AB rfl (AF rfl (AO rfl ?_))
  (refine AF rfl ?_; refine AS (sees_ok E w' ts [103, 117, 97, 114, 97, 110, 116, 101, 101] h.st) rfl ?_)
  rintro v w'' ⟨rfl, rfl⟩
  refine AQ rfl (AB rfl (AC (AB rfl ?_)))
  repeat' first | refine nx rfl ?_ | fail
  refine AP rfl ⟨_, rfl, ?_, rfl⟩
  rw [hb] at hr; exact hr
theorem declared_ok (E : Env) (w0 : World) (bx : Nat) (hx : Blk w0 bx 89 [pt E.s]) (hne : bx ≠ E.s) : MoreOk E w0 92 [] [pt bx] (sees2 [105, 110, 112, 117, 116] [111, 117, 116, 112, 117, 116]) := by
 intro w ts hk h
 show Fn Tryz.prog _ [pt bx] _ _
 have hb := hx.keep hk (by simpa using hne)
 refine Ac Tryz.func92 rfl Tryz.ntmps92 (Nat.le_of_ble_eq_true rfl) (by kernel_rfl) ?_
 repeat' first | refine nx rfl ?_ | fail
 refine AA (AC (AB rfl ?_))
 repeat' first | refine nx rfl ?_ | fail
 (refine AA ?_ <;> refine AG rfl (Blk.cell (by assumption) (by rfl)) ?_)
 refine AS (sees_ok E w ts [105, 110, 112, 117, 116] h.st) rfl ?_
 rintro v w' ⟨rfl, rfl⟩
 have hr := run_sees2 [105, 110, 112, 117, 116] [111, 117, 116, 112, 117, 116] ts
 cases hc : CI [105, 110, 112, 117, 116] (ts.head?.map bare) with
 | true =>
  refine AB rfl (AJ rfl ?_)
  refine AJ rfl (AL rfl (AB rfl (AC (AB rfl ?_))))
  repeat' first | refine nx rfl ?_ | fail
  refine AP rfl ⟨_, rfl, ?_, rfl⟩
  rw [hc] at hr; exact hr
 | false =>
  (refine AB rfl ?_ <;> (refine AF rfl ?_; refine AG rfl (Blk.cell (by assumption) (by rfl)) ?_))
  (refine AF rfl ?_; refine AS (sees_ok E w' ts [111, 117, 116, 112, 117, 116] h.st) rfl ?_)
  rintro v w'' ⟨rfl, rfl⟩
  refine AQ rfl (AB rfl (AC (AB rfl ?_)))
  repeat' first | refine nx rfl ?_ | fail
  refine AP rfl ⟨_, rfl, ?_, rfl⟩
  rw [hc] at hr; exact hr
theorem expect_inv {t : List UInt8} {ts ts' : List Tok} {u : Unit} (h : Run (CQ t) ts (.ok (u, ts'))) : ts'.length + 1 = ts.length := by
 cases hs : CI t (ts.head?.map bare) with
 | true =>
  have e := h.det (run_expect_t hs)
  cases e
  cases ts with
  | nil => simp [CI] at hs
  | cons x l => rfl
 | false => have e := h.det (run_expect_f hs); cases e
theorem name_inv {ts ts' : List Tok} {s : List UInt8} (h : Run nameG ts (.ok (s, ts'))) : ts'.length + 1 = ts.length := by
 cases ts with
 | nil => cases h.det (Run.look (Run.fail _))
 | cons x l =>
  cases hb : (decide (x.kind = 1) && BN x.text) with
  | true =>
   have hr : Run nameG (x :: l) (.ok (x.text, l)) := by
    refine Run.look ?_
    show Run (if (decide (x.kind = 1) && BN x.text) = true then _ else _) _ _
    rw [if_pos hb]; exact Run.next (Run.ret _ _)
   cases h.det hr; rfl
  | false =>
   have hr : Run nameG (x :: l) (.error (x :: l)) := by
    refine Run.look ?_
    show Run (if (decide (x.kind = 1) && BN x.text) = true then _ else _) _ _
    rw [hb]; exact Run.fail _
   cases h.det hr
theorem Run.le {α : Type} {p : G α} {l l' : List Tok} {a : α} (h : Run p l (.ok (a, l'))) : l'.length ≤ l.length := (show l' <:+ l from h.suffix).length_le
theorem CG {α β : Type} {p : G α} {q : α → G β} {l l' : List Tok} {b : β} (h : Run (p.bind q) l (.ok (b, l'))) : ∃ a l1, Run p l (.ok (a, l1)) ∧ Run (q a) l1 (.ok (b, l')) := by
 rcases h.bind_inv with ⟨a, l1, h1, h2⟩ | ⟨e, _, h2⟩
 ·exact ⟨a, l1, h1, h2⟩
 ·cases h2
theorem call_ok {α : Type} {nt : NT} {k : nt.T → G α} {l l' : List Tok} {b : α} (h : Run (.call nt k) l (.ok (b, l'))) : ∃ a l1, RunN nt l (.ok (a, l1)) ∧ Run (k a) l1 (.ok (b, l')) := by
 rcases h.call_inv with ⟨a, l1, h1, h2⟩ | ⟨e, _, h2⟩
 ·exact ⟨a, l1, h1, h2⟩
 ·cases h2
theorem signal_less {t t2 : List Tok} {a : Sgn} (h : Run (body .signal) t (.ok (a, t2))) : t2.length < t.length := by
 obtain ⟨i, t1, r1, h⟩ := CG h
 obtain ⟨_, t3, r3, h⟩ := CG h
 obtain ⟨s, t4, r4, h⟩ := CG h
 have := r1.le; have := r3.le; have := name_inv r4; have := h.le
 omega
theorem req_less {t t2 : List Tok} {a : Rqm} (h : Run (body .req) t (.ok (a, t2))) : t2.length < t.length := by
 obtain ⟨i, t1, r1, h⟩ := CG h
 obtain ⟨_, t3, r3, h⟩ := CG h
 obtain ⟨s, t4, r4, h⟩ := CG h
 have := r1.le; have := r3.le; have := name_inv r4; have := h.le
 omega
theorem line_less {t t2 : List Tok} {a : Rqm} (h : Run (body .line) t (.ok (a, t2))) : t2.length < t.length := by
 obtain ⟨r, t1, r1, h⟩ := call_ok h
 have := req_less r1; have := h.le
 omega
theorem part_less {t t2 : List Tok} {a : List Rqm} (h : Run (body .part) t (.ok (a, t2))) : t2.length < t.length := by
 obtain ⟨_, t1, r1, h⟩ := CG h
 have := expect_inv r1; have := h.le
 omega
theorem whileP_sig : WhileP (sees2 [105, 110, 112, 117, 116] [111, 117, 116, 112, 117, 116]) (body .signal) (body .sigs) where
 done h := h.bind (Run.ret _ _)
 more h h1 h2 := h.bind (Run.call h1 (Run.call h2 (Run.ret _ _)))
 err1 h h1 := h.bind (Run.callE h1)
 err2 h h1 h2 := h.bind (Run.call h1 (Run.callE h2))
 less _ h := signal_less h
theorem whileP_lines : WhileP (sees2 [97, 115, 115, 117, 109, 101] [103, 117, 97, 114, 97, 110, 116, 101, 101]) (body .line) (body .lines) where
 done h := h.bind (Run.ret _ _)
 more h h1 h2 := h.bind (Run.call h1 (Run.call h2 (Run.ret _ _)))
 err1 h h1 := h.bind (Run.callE h1)
 err2 h h1 h2 := h.bind (Run.call h1 (Run.callE h2))
 less _ h := line_less h
theorem whileP_parts : WhileP (sees2 [112, 97, 114, 116] [112, 97, 114, 116]) (body .part) (body .parts) where
 done h := h.bind (Run.ret _ _)
 more h h1 h2 := h.bind (Run.call h1 (Run.call h2 (Run.ret _ _)))
 err1 h h1 := h.bind (Run.callE h1)
 err2 h h1 h2 := h.bind (Run.call h1 (Run.callE h2))
 less _ h := part_less h
theorem own_blkN {w : World} {B e n size : Nat} {a : Option Addr} {cap : Nat} {xs : List Value} (h : w.ownsRow B e size (.slice a n cap) n xs) (hn : 0 < n) :
  ∃ g L, a = some ⟨g, 0, none⟩ ∧ B ≤ g ∧ Blk w g e L ∧ n * size ≤ L.length ∧ ∀ w' i u, Put w w' g e (L.set i u) → w'.ownsRow B e size (.slice a n cap) n (xs.set i u) := by
 obtain ⟨hl, hv⟩ := h
 rcases hv with ⟨_, rfl⟩ | ⟨g, cap', cur, hv, hB, hg, h1, h2, h3, h4⟩
 ·omega
 ·cases hv
  refine ⟨g, cur.toList, rfl, hB, by simpa [Blk] using hg, ?_, fun w' i u hp => ⟨by simpa using hl, .inr ⟨g, cap, (cur.toList.set i u).toArray, rfl, hB, hp.blk, h1, h2, by simpa using h3, ?_⟩⟩⟩
  ·have := congrArg List.length h4
   simp at this
   rw [hl] at this
   simp; omega
  ·show ((cur.toList.set i u).toArray.toList.take (n * size)) = _
   rw [← h4, List.take_set]
theorem flatten_set (n : Nat) (u : Value) : ∀ (L : List (List Value)) (k j : Nat) (c : List Value), (∀ c ∈ L, c.length = n) → L[k]? = some c → j < n → L.flatten.set (k * n + j) u = (L.set k (c.set j u)).flatten
 | [], k, j, c, _, h, _ => by simp at h
 | d :: L, 0, j, c, h5, h, hj => by
  simp at h; subst h
  have := h5 d (by simp)
  rw [Nat.zero_mul, Nat.zero_add, List.flatten_cons, List.set_append_left _ _ (by omega)]
  rfl
 | d :: L, k + 1, j, c, h5, h, hj => by
  have hd := h5 d (by simp)
  rw [List.flatten_cons, List.set_append_right _ _ (by rw [hd, Nat.succ_mul]; omega), hd, show (k + 1) * n + j - n = k * n + j by rw [Nat.succ_mul]; omega]
  rw [flatten_set n u L k j c (fun c hc => h5 c (by simp [hc])) (by simpa using h) hj]
  rfl
def inPart (s : List UInt8) (r : Rqm) : Rqm := ⟨s, r.name, r.kind, r.formula⟩
def upTo {α : Type} (f : α → α) (k : Nat) (l : List α) : List α := (l.take k).map f ++ l.drop k
theorem upTo_get {α : Type} (f : α → α) {k : Nat} {l : List α} (hk : k ≤ l.length) (i : Nat) : (upTo f k l)[i]? = if i < k then (l[i]?).map f else l[i]? := by
 unfold upTo
 split
 ·rename_i h
  rw [List.getElem?_append_left (by simp; omega), List.getElem?_map, List.getElem?_take, if_pos h]
 ·rename_i h
  rw [List.getElem?_append_right (by simp; omega), List.getElem?_drop]
  congr 1
  simp; omega
theorem upTo_len {α : Type} (f : α → α) (k : Nat) (l : List α) (hk : k ≤ l.length) : (upTo f k l).length = l.length := by simp [upTo]; omega
theorem part_ok (E : Env) (N : Nat) : ItemR reqsR oneV E N 98 (body .part) := by
 intro w ts h hN
 have hsl := h.st.slt
 unfold PDo
 refine Ao Tryz.func98 rfl Tryz.ntmps98 (Nat.le_of_ble_eq_true rfl) (by kernel_rfl) ?_
 repeat' first | refine nx rfl ?_ | fail
 refine AA (AC (Al rfl ?_))
 repeat' first | refine nx rfl ?_ | fail
 refine AA (AO rfl ?_)
 refine AZ (CM E w ts [112, 97, 114, 116] h.st) rfl ?_ ?_
 rotate_left
 ·rintro ch wq ⟨kq, lq, rq, rfl⟩
  repeat' first | refine nx rfl ?_ | fail
  exact AX ⟨(Keep.refl [E.s] w).trans kq (by simp), lq, Run.bindE rq, rfl⟩
 rintro v w1 ⟨k1, _, t1, r1, q1, rfl⟩
 have h1 := h.next k1 q1
 repeat' first | refine nx rfl ?_ | fail
 refine AA (AO rfl ?_)
 refine AZ (pname_ok E w1 t1 h1.st h1.gk) rfl ?_ ?_
 rotate_left
 ·rintro ch wq ⟨kq, lq, rq, rfl⟩
  repeat' first | refine nx rfl ?_ | fail
  exact AX ⟨k1.trans kq (by simp), lq, r1.bind (Run.bindE rq), rfl⟩
 rintro v w2 ⟨k2, s, t2, r2, q2, rfl, hs⟩
 have h2 := h1.next k2 q2
 have k12 := k1.trans k2 (by simp)
 ((refine AC ?_; refine Ab rfl ?_))
 repeat' first | refine nx rfl ?_ | fail
 refine AA (AO rfl ?_)
 refine AZ (CM E w2 t2 [123] h2.st) rfl ?_ ?_
 rotate_left
 ·rintro ch wq ⟨kq, lq, rq, rfl⟩
  repeat' first | refine nx rfl ?_ | fail
  exact AX ⟨k12.trans kq (by simp), lq, r1.bind (r2.bind (Run.bindE rq)), rfl⟩
 rintro v w3 ⟨k3, _, t3, r3, q3, rfl⟩
 have h3 := h2.next k3 q3
 have k13 := k12.trans k3 (by simp)
 repeat' first | refine nx rfl ?_ | fail
 refine AA (AO rfl (A4 rfl rfl (AO rfl (A4 rfl rfl ?_))))
 refine AZ (whileReq_ok E t3.length _ _ [pt E.s] [] _ _ _ whileP_lines w3 t3 (required_ok E w3) (line_ok E _) h3 (Nat.le_refl _)) rfl ?_ ?_
 rotate_left
 ·rintro ch wq ⟨kq, lq, rq, rfl⟩
  repeat' first | refine nx rfl ?_ | fail
  exact AX ⟨k13.trans kq (by simp), lq, r1.bind (r2.bind (r3.bind (Run.callE rq))), rfl⟩
 rintro v w4 ⟨k4, l, t4, r4, q4, L, o4, F4⟩
 have h4 := h3.next k4 q4
 have k14 := k13.trans k4 (by simp)
 obtain ⟨a, c, rfl⟩ : ∃ a c, v = .slice a l.length c := by
  rcases o4.2 with ⟨rfl, h0⟩ | ⟨g, cap, cur, rfl, _⟩
  ·exact ⟨none, 0, by rw [h0]⟩
  ·exact ⟨_, _, rfl⟩
 have hlm : l.length ≤ 9223372036854775807 := by
  obtain ⟨_, _, hv, g1, g2, _⟩ := A8 (ok := A2) o4 fun _ _ => trivial
  cases hv; omega
 ((refine AC ?_; refine Al rfl ?_))
 repeat' first | refine nx rfl ?_ | fail
 refine AA (AO rfl ?_)
 refine AZ (CM E w4 t4 [125] h4.st) rfl ?_ ?_
 rotate_left
 ·rintro ch wq ⟨kq, lq, rq, rfl⟩
  repeat' first | refine nx rfl ?_ | fail
  exact AX ⟨k14.trans kq (by simp), lq, r1.bind (r2.bind (r3.bind (Run.call r4 (Run.bindE rq)))), rfl⟩
 rintro v w5 ⟨k5, _, t5, r5, q5, rfl⟩
 have h5 := h4.next k5 q5
 have k15 := k14.trans k5 (by simp)
 have z13 := k13.size
 have hsg : ∀ g, (Value.slice a l.length c).ownBlock = some g → w3.heap.size ≤ g ∧ g < w4.heap.size := fun g hg => BW o4 hg
 have o5 := Ay o4 k5 (fun g hg => by have := hsg g hg; simp; omega)
 have F5 := F4.keep k5 (fun b hb => by have := hb.1; simp [fresh] at this ⊢; omega)
 repeat' first | refine nx rfl ?_ | fail
 refine AA (Al rfl (Aq rfl (AI rfl ?_)))
 repeat' first | refine nx rfl ?_ | fail
 refine BC (α := Nat) (fun k => [(3, AM s), (4, .slice a l.length c), (20, .int .i64 (l.length : Int)), (21, .int .i64 (k : Int))])
  (fun k W => k ≤ l.length ∧ Keep [E.s] w W ∧ PSt W E t5 ∧ ∃ L', W.ownsRow w3.heap.size 30 8 (.slice a l.length c) l.length L'.flatten ∧ RsAt reqR (fun b => fresh w3 b ∧ (Value.slice a l.length c).ownBlock ≠ some b) W L' (upTo (inPart s) k l)) (fun k => l.length - k) 0 ⟨rfl, rfl, rfl, rfl, trivial⟩
  ⟨by omega, k15, q5, L, o5, by simpa [upTo] using F5⟩ ?_
 rintro k w6 f6 ⟨hk, k6, q6, L', o6, F6⟩
 repeat' first | refine nx rfl ?_ | fail
 by_cases hlt : k < l.length
 ·obtain ⟨g, Lc, rfl, hB, hb, hLc, hput⟩ := own_blkN o6 (by omega)
  have hkl : k * 8 + 8 ≤ l.length * 8 := by omega
  have hul := upTo_len (inPart s) k l hk
  obtain ⟨cc, hcc⟩ : ∃ cc, L'[k]? = some cc := ⟨_, List.getElem?_eq_getElem (by rw [F6.1, hul]; exact hlt)⟩
  obtain ⟨r, hr⟩ : ∃ r, l[k]? = some r := ⟨_, List.getElem?_eq_getElem hlt⟩
  have hr' : (upTo (inPart s) k l)[k]? = some r := by rw [upTo_get _ hk, if_neg (by omega), hr]
  have hfit := F6.2 k cc r hcc hr'
  (refine AA ?_ <;> (refine As rfl rfl (fun hc => ?_) (fun hc => ?_) <;> try omega))
  repeat' first | refine nx rfl ?_ | fail
  refine AA (AI rfl (AC (AI rfl ?_)))
  repeat' first | refine nx rfl ?_ | fail
  (refine AA (Al rfl (AI rfl (Ab rfl ?_))) <;> refine Bd rfl rfl rfl (by omega) ?_ <;> refine AD rfl ?_)
  refine Am (v := AM s) rfl rfl rfl hb (by omega) (fun w7 p7 => ?_)
  repeat' first | refine nx rfl ?_ | fail
  (refine AA ?_ <;> refine BB rfl rfl (by first | exact Ak (by omega) (by omega) | exact Ar (by omega) (by omega) | exact Aj (by omega) (by omega)) ?_ <;> refine AI rfl ?_)
  repeat' first | refine nx rfl ?_ | fail
  have e0 : 0 + k * 8 + 0 = k * 8 + 0 := by omega
  rw [e0] at p7
  have o7 := hput w7 _ _ p7
  have hfs := flatten_set 8 (AM s) L' k 0 cc F6.len hcc (by omega)
  rw [hfs] at o7
  have z3 := k3.size
  refine ⟨k + 1, ⟨rfl, ⟨rfl, rfl, rfl, ?_, trivial⟩, ⟨by omega, k6.trans p7.keep (fun x hx hlt => by simp at hx; omega), q6.keep p7.keep (fun x hx => by simp at hx; omega), _, o7, ?_⟩⟩, by omega⟩
  ·show Value.int .i64 ((k : Int) + 1) = _
   rw [Int.natCast_add]; rfl
  ·refine ⟨by rw [List.length_set, F6.1, upTo_len _ _ _ hk, upTo_len _ _ _ (by omega)], fun i d x hd hx => ?_⟩
   have hkeep : ∀ b, (fresh w3 b ∧ (Value.slice (some ⟨g, 0, none⟩) l.length c).ownBlock ≠ some b) → b ∉ [g] := fun b hb hx => hb.2 (by simp at hx; subst hx; rfl)
   rw [upTo_get _ (by omega)] at hx
   rw [List.getElem?_set] at hd
   by_cases hik : k = i
   ·subst hik
    rw [if_pos rfl, if_pos (by rw [F6.1, hul]; exact hlt)] at hd
    cases hd
    rw [if_pos (by omega), hr] at hx
    cases hx
    obtain ⟨d, rfl, hd5, hdf⟩ := hfit
    exact ⟨d, rfl, hd5, hdf.keep p7.keep hkeep⟩
   ·rw [if_neg hik] at hd
    have hx' : (upTo (inPart s) k l)[i]? = some x := by
     rw [upTo_get _ hk]
     by_cases h1 : i < k
     ·rw [if_pos h1]; rwa [if_pos (by omega)] at hx
     ·rw [if_neg h1]; rwa [if_neg (by omega)] at hx
    exact reqR.keep (F6.2 i d x hd hx') p7.keep hkeep
 ·obtain rfl : k = l.length := by omega
  (refine AA ?_ <;> (refine As rfl rfl (fun hc => ?_) (fun hc => ?_) <;> try omega))
  repeat' first | refine nx rfl ?_ | refine nf rfl ?_
  refine AA (Al rfl (AC (Al rfl ?_)))
  repeat' first | refine nx rfl ?_ | fail
  have hm : upTo (inPart s) l.length l = l.map (inPart s) := by simp [upTo]
  rw [hm] at F6
  have S6 := A8 (ok := fresh w) o6 (fun g hg => by have := hsg g hg; simp only [fresh]; omega)
  have hml : (l.map (inPart s)).length = l.length := by simp
  refine AP rfl ⟨k6, l.map (inPart s), t5, r1.bind (r2.bind (r3.bind (Run.call r4 (r5.bind (Run.ret _ _))))), q6, [.slice a l.length c], rfl, _, rfl, a, c, L', by rw [hml], by rw [hml]; exact S6, F6.mono fun b hb => by have := hb.1; simp only [fresh] at this ⊢; omega⟩
end Go.Proofs.YtfcgdbmoncnibaaGreatDoor
namespace Go.Proofs.YtfcgdbmoncnibaaGreatDoor
open Go.RowKit
set_option linter.unusedVariables false
variable {mk : Prop} [MK mk]
theorem BR {l : List Value} (h : l.all (fun v => v.oneCell') = true) : oneC l := fun u hu => List.all_eq_true.1 h u hu
def spcR : Rp Spc where
 fits ok w c x := ∃ sv rv, c = [sv, rv] ∧ SlAt sgnR ok w sv x.sigs ∧ SlAt reqR ok w rv x.reqs
 size := 2
 len h := by obtain ⟨_, _, rfl, _⟩ := h; rfl
 one h := by
  obtain ⟨_, _, rfl, ⟨_, _, _, rfl, _⟩, ⟨_, _, _, rfl, _⟩⟩ := h
  intro u hu; simp at hu; rcases hu with rfl | rfl <;> rfl
 keep h k hX := by
  obtain ⟨sv, rv, e, ⟨a, c, L, e1, h1, h2⟩, ⟨b, d, M, e2, h3, h4⟩⟩ := h
  exact ⟨sv, rv, e, ⟨a, c, L, e1, h1.keep k hX, h2.keep k hX⟩, ⟨b, d, M, e2, h3.keep k hX, h4.keep k hX⟩⟩
 lt h := by
  obtain ⟨sv, rv, e, ⟨a, c, L, e1, h1, h2⟩, ⟨b, d, M, e2, h3, h4⟩⟩ := h
  exact ⟨sv, rv, e, ⟨a, c, L, e1, Sl_ltR (by show 0 < 3; decide) h1 h2, h2.lt⟩, ⟨b, d, M, e2, Sl_ltR (by show 0 < 8; decide) h3 h4, h4.lt⟩⟩
 mono h hk := by
  obtain ⟨sv, rv, e, ⟨a, c, L, e1, h1, h2⟩, ⟨b, d, M, e2, h3, h4⟩⟩ := h
  exact ⟨sv, rv, e, ⟨a, c, L, e1, h1.mono hk, h2.mono hk⟩, ⟨b, d, M, e2, h3.mono hk, h4.mono hk⟩⟩
def edtR : Rp Edt where
 fits ok w c x := ∃ d, c = .int .i64 x.kind :: d ∧ reqR.fits ok w d x.req
 size := 9
 len h := by obtain ⟨d, rfl, h⟩ := h; have := reqR.len h; simp [this]; rfl
 one h := by
  obtain ⟨d, rfl, h⟩ := h
  have := reqR.one h
  intro u hu
  rcases List.mem_cons.1 hu with rfl | hu
  ·rfl
  ·exact this u hu
 keep h k hX := by obtain ⟨d, e, h⟩ := h; exact ⟨d, e, reqR.keep h k hX⟩
 lt h := by obtain ⟨d, e, h⟩ := h; exact ⟨d, e, reqR.lt h⟩
 mono h hk := by obtain ⟨d, e, h⟩ := h; exact ⟨d, e, reqR.mono h hk⟩
def fmlR : Rp Fml where
 fits ok w c x := c.length = 5 ∧ FAt ok w (.agg c.toArray) x
 size := 5
 len h := h.1
 one h := by
  obtain ⟨c', e, _, h1⟩ := h.2.cells
  simp only [Value.agg.injEq] at e
  have e2 := congrArg Array.toList e
  simp only [List.toList_toArray] at e2
  exact e2 ▸ h1
 keep h k hX := ⟨h.1, h.2.keep k hX⟩
 lt h := ⟨h.1, h.2.lt⟩
 mono h hk := ⟨h.1, h.2.mono hk⟩
theorem sees2_inv {s t : List UInt8} {ts ts' : List Tok} {b : Bool} (h : Run (sees2 s t) ts (.ok (b, ts'))) : ts' = ts := by
 cases h.det (run_sees2 s t ts); rfl
theorem lines_cnt : ∀ (n : Nat) (t t' : List Tok) (l : List Rqm), t.length ≤ n → Run (body .lines) t (.ok (l, t')) → l.length + t'.length ≤ t.length := by
 intro n
 induction n with
 | zero =>
  intro t t' l hn h
  obtain ⟨b, t1, r1, h⟩ := CG h
  have e := sees2_inv r1
  subst e
  cases b with
  | true =>
   obtain ⟨r, t2, r2, h⟩ := call_ok h
   have := line_less r2; omega
  | false => cases h.det (Run.ret _ _); simp
 | succ n ih =>
  intro t t' l hn h
  obtain ⟨b, t1, r1, h⟩ := CG h
  have e := sees2_inv r1
  subst e
  cases b with
  | true =>
   obtain ⟨r, t2, r2, h⟩ := call_ok h
   obtain ⟨m, t3, r3, h⟩ := call_ok h
   have h2 := line_less r2
   have h3 := ih t2 t3 m (by omega) r3
   cases h.det (Run.ret _ _)
   simp; omega
  | false => cases h.det (Run.ret _ _); simp
theorem part_cnt {t t' : List Tok} {l : List Rqm} (h : Run (body .part) t (.ok (l, t'))) : l.length + t'.length < t.length := by
 obtain ⟨_, t1, r1, h⟩ := CG h
 obtain ⟨_, t2, r2, h⟩ := CG h
 obtain ⟨_, t3, r3, h⟩ := CG h
 obtain ⟨m, t4, r4, h⟩ := call_ok h
 obtain ⟨_, t5, r5, h⟩ := CG h
 cases h.det (Run.ret _ _)
 have := expect_inv r1; have := r2.le; have := r3.le; have := lines_cnt _ _ _ _ (Nat.le_refl _) r4; have := r5.le
 simp; omega
theorem parts_cnt : ∀ (n : Nat) (t t' : List Tok) (l : List (List Rqm)), t.length ≤ n → Run (body .parts) t (.ok (l, t')) → l.flatten.length + t'.length ≤ t.length := by
 intro n
 induction n with
 | zero =>
  intro t t' l hn h
  obtain ⟨b, t1, r1, h⟩ := CG h
  have e := sees2_inv r1
  subst e
  cases b with
  | true =>
   obtain ⟨r, t2, r2, h⟩ := call_ok h
   have := part_less r2; omega
  | false => cases h.det (Run.ret _ _); simp
 | succ n ih =>
  intro t t' l hn h
  obtain ⟨b, t1, r1, h⟩ := CG h
  have e := sees2_inv r1
  subst e
  cases b with
  | true =>
   obtain ⟨r, t2, r2, h⟩ := call_ok h
   obtain ⟨m, t3, r3, h⟩ := call_ok h
   have h2 := part_cnt r2
   have h3 := ih t2 t3 m (by omega) r3
   cases h.det (Run.ret _ _)
   simp only [List.flatten_cons, List.length_append]; omega
  | false => cases h.det (Run.ret _ _); simp
theorem Cv (n : Nat) : ∀ (L : List (List Value)) (k j : Nat) (c : List Value) (v : Value), (∀ c ∈ L, c.length = n) → L[k]? = some c → c[j]? = some v → L.flatten[k * n + j]? = some v
 | [], k, j, c, v, _, h, _ => by simp at h
 | d :: L, 0, j, c, v, h5, h, hv => by
  simp at h; subst h
  rw [List.flatten_cons, Nat.zero_mul, Nat.zero_add, List.getElem?_append_left (List.getElem?_eq_some_iff.1 hv).1]; exact hv
 | d :: L, k + 1, j, c, v, h5, h, hv => by
  have hd := h5 d (by simp)
  rw [List.flatten_cons, List.getElem?_append_right (by rw [hd, Nat.succ_mul]; omega), hd, show (k + 1) * n + j - n = k * n + j by rw [Nat.succ_mul]; omega]
  exact Cv n L k j c v (fun c hc => h5 c (by simp [hc])) (by simpa using h) hv
theorem spec_ok (E : Env) (N : Nat) : ItemR spcR aggV E N 57 (body .spec) := by
 intro w ts h hN
 have hsl := h.st.slt
 unfold PDo
 refine Ao Tryz.func57 rfl Tryz.ntmps57 (Nat.le_of_ble_eq_true rfl) (by kernel_rfl) ?_
 repeat' first | refine nx rfl ?_ | fail
 (refine AA ?_; refine BY (L := [pt E.s]) rfl (fun w1 n1 => ?_))
 refine Au (fun w2 n2 => ?_)
 have z1 := n1.size
 have z2 := n2.size
 have x2 : Blk w2 w.heap.size 89 [pt E.s] := n1.blk.keep n2.keep (by simp)
 have b2 : Blk w2 w1.heap.size 28 [.slice none 0 0, .slice none 0 0] := n2.blk
 have h2 := (h.ext n1.keep).ext n2.keep
 have k2 : Keep [E.s] w w2 := (n1.keep.trans n2.keep).any
 repeat' first | refine nx rfl ?_ | fail
 (refine AA (A4 rfl rfl (AC ?_)) <;> refine CO rfl ?_)
 repeat' first | refine nx rfl ?_ | fail
 (refine AA ?_ <;> refine CO rfl ?_ <;> refine AG rfl (Blk.cell (by assumption) (by rfl)) ?_ <;> refine A4 rfl rfl ?_)
 refine AZ (whileSgn_ok E ts.length _ _ [] [pt w.heap.size] _ _ _ whileP_sig w2 ts (declared_ok E w2 _ x2 (by omega)) (signal_ok E _) h2 (Nat.le_refl _)) rfl ?_ ?_
 rotate_left
 ·rintro ch wq ⟨kq, lq, rq, rfl⟩
  repeat' first | refine nx rfl ?_ | fail
  exact AX ⟨k2.trans kq (by simp), lq, Run.callE rq, rfl⟩
 rintro sv w3 ⟨k3, l, t3, r3, q3, L, o3, F3⟩
 have h3 := h2.next k3 q3
 have k13 := k2.trans k3 (by simp)
 have z3 := k3.size
 have x3 := x2.keep k3 (by simp <;> omega)
 have b3 := b2.keep k3 (by simp <;> omega)
 have S3 := A8 (ok := fun b => w2.heap.size ≤ b ∧ b < w3.heap.size) o3 (fun g hg => by have := BW o3 hg; omega)
 obtain ⟨sa, sc, rfl, _⟩ := id S3
 (refine Ae (by rfl) (by rfl) ?_)
 refine A6 (cs := [.slice sa l.length sc, .slice none 0 0]) rfl rfl (by rfl) (by intro u hu; simp at hu; rcases hu with rfl | rfl <;> rfl) (fun w4 n4 => ?_)
 have h4 := h3.ext n4.keep
 have k14 := k13.ext n4.keep
 have z4 := n4.size
 have x4 := x3.keep n4.keep (by simp)
 have b4 := b3.keep n4.keep (by simp)
 have e4 := n4.blk
 have S4 := S3.ext n4.keep
 have F4 := F3.ext n4.keep
 repeat' first | refine nx rfl ?_ | fail
 (refine AA ?_ <;> refine AG rfl (Blk.cell (by assumption) (by rfl)) ?_ <;> refine A4 rfl rfl ?_ <;> refine AG rfl (Blk.cell (by assumption) (by rfl)) ?_ <;> refine A4 rfl rfl ?_)
 refine AZ (whileReqs_ok E t3.length _ _ [pt E.s] [] _ _ _ whileP_parts w4 t3 (opened_ok E w4) (part_ok E _) h4 (Nat.le_refl _)) rfl ?_ ?_
 rotate_left
 ·rintro ch wq ⟨kq, lq, rq, rfl⟩
  repeat' first | refine nx rfl ?_ | fail
  exact AX ⟨k14.trans kq (by simp), lq, Run.call r3 (Run.callE rq), rfl⟩
 rintro pv w5 ⟨k5, m, t5, r5, q5, M, o5, F5⟩
 have h5 := h4.next k5 q5
 have k15 := k14.trans k5 (by simp)
 have z5 := k5.size
 have b5 := b4.keep k5 (by simp <;> omega)
 have e5 := e4.keep k5 (by simp <;> omega)
 have S5 := S4.keep k5 (fun b hb => by simp; omega)
 have P5 := A8 (ok := fun b => w4.heap.size ≤ b ∧ b < w5.heap.size) o5 (fun g hg => BW o5 hg)
 have F5' : RsAt reqsR (fun b => w4.heap.size ≤ b ∧ b < w5.heap.size) w5 M m := F5.lt.mono fun b hb => ⟨hb.1.1, hb.2⟩
 obtain ⟨pa, pc, rfl, _⟩ := id P5
 have hts := h.st.cnt
 have hc3 := (show t3 <:+ ts from Run.suffix r3).length_le
 have hcnt := parts_cnt _ _ _ _ (Nat.le_refl _) r5
 have hmm : m.length ≤ 9223372036854775807 := by
  obtain ⟨_, _, hv, g1, g2, _⟩ := id P5
  cases hv; omega
 refine Aq rfl (AI rfl ?_)
 repeat' first | refine nx rfl ?_ | fail
 refine BC (α := Nat × Value × List (List Value)) (fun x => [(2, pt w1.heap.size), (4, pt w3.heap.size), (17, .slice pa m.length pc), (18, .int .i64 (m.length : Int)), (19, .int .i64 (x.1 : Int))])
  (fun x W => x.1 ≤ m.length ∧ Keep [E.s] w W ∧ PSt W E t5 ∧ w5.heap.size ≤ W.heap.size ∧ Blk W w1.heap.size 28 [.slice none 0 0, .slice none 0 0] ∧ Blk W w3.heap.size 28 [.slice sa l.length sc, x.2.1] ∧
   Sl (fun b => w2.heap.size ≤ b ∧ b < w3.heap.size) W (.slice sa l.length sc) l.length L.flatten ∧ Sl (fun b => w4.heap.size ≤ b ∧ b < w5.heap.size) W (.slice pa m.length pc) m.length M.flatten ∧ RsAt reqsR (fun b => w4.heap.size ≤ b ∧ b < w5.heap.size) W M m ∧
   W.ownsRow w5.heap.size 30 8 x.2.1 (m.take x.1).flatten.length x.2.2.flatten ∧ RsAt reqR (fun b => w4.heap.size ≤ b ∧ b < w5.heap.size) W x.2.2 (m.take x.1).flatten) (fun x => m.length - x.1) (0, .slice none 0 0, []) ⟨rfl, rfl, rfl, rfl, rfl, trivial⟩
  ⟨by simp, k15, q5, Nat.le_refl _, b5, e5, S5, P5, F5', ⟨by simp, .inl ⟨rfl, rfl⟩⟩, RsAt.nil⟩ ?_
 rintro ⟨k, rv, Q⟩ w6 f6 ⟨hk, k6, q6, z6, b6, e6, S6, P6, F6, o6, G6⟩
 simp only at hk o6 G6 e6 ⊢
 repeat' first | refine nx rfl ?_ | fail
 have hb1 : w1.heap.size < w3.heap.size := by omega
 by_cases hlt : k < m.length
 ·obtain ⟨c, hc⟩ : ∃ c, M[k]? = some c := ⟨_, List.getElem?_eq_getElem (by rw [F6.1]; exact hlt)⟩
  obtain ⟨rs, hrs⟩ : ∃ rs, m[k]? = some rs := ⟨_, List.getElem?_eq_getElem hlt⟩
  obtain ⟨pv, rfl, va, vc, V, rfl, SV, FV⟩ := F6.2 k c rs hc hrs
  obtain ⟨b, o, rfl, hb, hcell⟩ : ∃ b o, pa = some ⟨b, o, none⟩ ∧ (w4.heap.size ≤ b ∧ b < w5.heap.size) ∧ w6.cell? ⟨b, o + k, none⟩ = some (.slice va rs.length vc) := by
   obtain ⟨a', cap, hv, g1, g2, g3, g4⟩ := id P6
   cases hv
   obtain ⟨b, o, rfl, hb, hcc⟩ := g4.resolve_left (by omega)
   refine ⟨b, o, rfl, hb, hcc k _ ?_⟩
   have := Cv 1 M k 0 _ _ F6.len hc rfl
   simpa using this
  have etk : m.take (k + 1) = m.take k ++ [rs] := by rw [List.take_add_one, hrs]; rfl
  have hcr : (m.take (k + 1)).flatten.length ≤ m.flatten.length := by
   have e1 := congrArg (fun x => x.flatten.length) (List.take_append_drop (k + 1) m)
   simp only [List.flatten_append, List.length_append] at e1; omega
  have etl : (m.take (k + 1)).flatten.length = (m.take k).flatten.length + rs.length := by rw [etk]; simp
  obtain ⟨ra, rc, rfl⟩ : ∃ ra rc, rv = .slice ra (m.take k).flatten.length rc := by
   rcases o6.2 with ⟨rfl, h0⟩ | ⟨g, cap, cur, rfl, _⟩
   ·exact ⟨none, 0, by rw [h0]⟩
   ·exact ⟨_, _, rfl⟩
  have hown : ∀ x ∈ (Value.slice ra (m.take k).flatten.length rc).ownBlock.toList, w5.heap.size ≤ x := fun x hx => (BW o6 (Option.mem_toList.1 hx)).1
  (refine AA ?_ <;> (refine As rfl rfl (fun hc => ?_) (fun hc => ?_) <;> try omega))
  repeat' first | refine nx rfl ?_ | fail
  (refine AA ?_ <;> refine W_idx1 rfl rfl rfl (by omega) ?_ <;> refine AG rfl (by assumption) ?_ <;> refine AC (Al rfl ?_))
  repeat' first | refine nx rfl ?_ | fail
  (refine AA (AD rfl ?_) <;> refine AG rfl (Blk.cell (by assumption) (by rfl)) ?_ <;> refine Al rfl ?_)
  refine B9 (v := .slice ra (m.take k).flatten.length rc) (sv := .slice va rs.length vc) rfl rfl o6 SV (by omega) rfl FV.flat FV.oneC (by omega) (by omega) (by omega) (fun v7 w7 a7 => ?_)
  have o7 := a7.own
  have z7 := a7.keep.size
  have hkp : ∀ b, b < w5.heap.size → b ∉ (Value.slice ra (m.take k).flatten.length rc).ownBlock.toList := fun b hb hx => by have := hown b hx; omega
  have e7 := e6.keep a7.keep (hkp _ (by omega))
  have b7 := b6.keep a7.keep (hkp _ (by omega))
  have S7 := S6.keep a7.keep (fun b hb => hkp b (by omega))
  have P7 := P6.keep a7.keep (fun b hb => hkp b hb.2)
  have F7 := F6.keep a7.keep (fun b hb => hkp b hb.2)
  have G7 := (G6.app FV).keep a7.keep (fun b hb => hkp b hb.2)
  have k7 := k6.trans a7.keep (fun x hx hlt => by have := hown x hx; omega)
  have q7 := q6.keep a7.keep (fun x hx => by have := hown x hx; omega)
  obtain ⟨va7, vc7, rfl⟩ : ∃ va7 vc7, v7 = .slice va7 ((m.take k).flatten.length + rs.length) vc7 := by
   rcases o7.2 with ⟨rfl, h0⟩ | ⟨g, cap, cur, rfl, _⟩
   ·exact ⟨none, 0, by rw [h0]⟩
   ·exact ⟨_, _, rfl⟩
  (refine AD rfl ?_)
  refine Am rfl rfl rfl e7 (by simp) (fun w8 p8 => ?_)
  have z8 := p8.size
  have hk8 : ∀ b, b ≠ w3.heap.size → b ∉ [w3.heap.size] := fun b hb hx => hb (by simpa using hx)
  repeat' first | refine nx rfl ?_ | fail
  (refine AA ?_ <;> refine BB rfl rfl (by first | exact Ak (by omega) (by omega) | exact Ar (by omega) (by omega) | exact Aj (by omega) (by omega)) ?_ <;> refine AI rfl ?_)
  repeat' first | refine nx rfl ?_ | fail
  refine ⟨(k + 1, .slice va7 ((m.take k).flatten.length + rs.length) vc7, Q ++ V), ⟨rfl, ⟨rfl, rfl, rfl, rfl, ?_, trivial⟩, ⟨by simp only; omega, k7.trans p8.keep (by simp <;> omega), q7.keep p8.keep (by simp <;> omega), by omega, b7.keep p8.keep (hk8 _ (by omega)), p8.blk, S7.keep p8.keep (fun b hb => hk8 _ (by omega)), P7.keep p8.keep (fun b hb => hk8 _ (by omega)), F7.keep p8.keep (fun b hb => hk8 _ (by omega)), ?_, ?_⟩⟩, by simp only; omega⟩
  ·show Value.int .i64 ((k : Int) + 1) = _
   rw [Int.natCast_add]; rfl
  ·have := Ay o7 p8.keep (fun g hg => hk8 g (by have := BW o7 hg; omega))
   simp only [etl, List.flatten_append]
   exact this
  ·simp only [etk, List.flatten_append]
   have := G7.keep p8.keep (fun b hb => hk8 _ (by omega))
   simpa using this
 ·obtain rfl : k = m.length := by omega
  rw [List.take_length] at o6 G6
  (refine AA ?_ <;> (refine As rfl rfl (fun hc => ?_) (fun hc => ?_) <;> try omega))
  repeat' first | refine nx rfl ?_ | refine nf rfl ?_
  have hr6 := A8 (ok := fresh w) o6 (fun g hg => by have := BW o6 hg; simp only [fresh]; omega)
  obtain ⟨ra, rc, rfl, _⟩ := id hr6
  (refine AA ?_; refine AY rfl e6 rfl ?_)
  refine Ad (cs := [.slice sa l.length sc, .slice ra m.flatten.length rc]) rfl rfl rfl (by intro u hu; simp at hu; rcases hu with rfl | rfl <;> rfl) b6 (by simp) (fun w7 p7 => ?_)
  repeat' first | refine nx rfl ?_ | fail
  have b7 : Blk w7 w1.heap.size 28 [.slice sa l.length sc, .slice ra m.flatten.length rc] := p7.blk
  have hk7 : ∀ b, b ≠ w1.heap.size → b ∉ [w1.heap.size] := fun b hb hx => hb (by simpa using hx)
  have F6s : RsAt sgnR (fun b => b ≠ w1.heap.size ∧ fresh w b) w6 L l := ⟨F4.1, fun i c a hc ha => F4.2 i c a hc ha⟩
  have R7 := A8 (ok := fun b => b ≠ w1.heap.size ∧ fresh w b) o6 (fun g hg => by have := BW o6 hg; simp only [fresh]; omega)
  refine Az rfl rfl rfl b7.cells ⟨k6.trans p7.keep (by simp <;> omega), ⟨l, m.flatten⟩, t5, Run.call r3 (Run.call r5 (Run.ret _ _)), q6.keep p7.keep (by simp <;> omega), _, rfl, _, _, rfl, ⟨_, _, L, rfl, ?_, ?_⟩, ⟨_, _, Q, rfl, ?_, ?_⟩⟩
  ·exact (S6.mono (ok' := fun b => b ≠ w1.heap.size ∧ fresh w b) (fun b hb => by simp only [fresh]; omega)).keep p7.keep (fun b hb => hk7 b hb.1) |>.mono fun b hb => hb.2
  ·exact (F6s.keep p7.keep (fun b hb => hk7 b hb.1)).mono fun b hb => hb.2
  ·exact (R7.keep p7.keep (fun b hb => hk7 b hb.1)).mono fun b hb => hb.2
  ·exact ((G6.mono (ok' := fun b => b ≠ w1.heap.size ∧ fresh w b) (fun b hb => by simp only [fresh]; omega)).keep p7.keep (fun b hb => hk7 b hb.1)).mono fun b hb => hb.2
end Go.Proofs.YtfcgdbmoncnibaaGreatDoor
namespace Go.Proofs.YtfcgdbmoncnibaaGreatDoor
open Go.RowKit
set_option linter.unusedVariables false
variable {mk : Prop} [MK mk]
theorem fml_eq {f g : Fml} : f = g ↔ f.op = g.op ∧ f.name = g.name ∧ f.val = g.val ∧ f.bound = g.bound ∧ f.args = g.args := by
 obtain ⟨a, b, c, d, e⟩ := f
 obtain ⟨a', b', c', d', e'⟩ := g
 simp [Fml.op, Fml.name, Fml.val, Fml.bound, Fml.args]
theorem ints_ok (a b : Int) (w : World) : Fn Tryz.prog 141 [.int .i64 a, .int .i64 b] w fun v w' => ∃ c : Int, v = .int .i64 c ∧ (c = 0 ↔ a = b) ∧ w' = w := by
 refine Ac Tryz.func141 rfl Tryz.ntmps141 (Nat.le_of_ble_eq_true rfl) (by kernel_rfl) ?_
 repeat' first | refine nx rfl ?_ | fail
 refine AA (AC (AI rfl ?_))
 repeat' first | refine nx rfl ?_ | fail
 by_cases h1 : a < b
 ·(refine AA (AI rfl (AI rfl ?_)) <;> (refine As rfl rfl (fun hc => ?_) (fun hc => ?_) <;> try omega))
  repeat' first | refine nx rfl ?_ | fail
  refine AA (AC (AI rfl ?_))
  repeat' first | refine nx rfl ?_ | fail
  exact AP rfl ⟨-1, rfl, by omega, rfl⟩
 ·(refine AA (AI rfl (AI rfl ?_)) <;> (refine As rfl rfl (fun hc => ?_) (fun hc => ?_) <;> try omega))
  repeat' first | refine nx rfl ?_ | refine nf rfl ?_
  by_cases h2 : b < a
  ·(refine AA (AI rfl (AI rfl ?_)) <;> (refine Bs rfl rfl (fun hc => ?_) (fun hc => ?_) <;> try omega))
   repeat' first | refine nx rfl ?_ | fail
   refine AA (AC (AI rfl ?_))
   repeat' first | refine nx rfl ?_ | fail
   exact AP rfl ⟨1, rfl, by omega, rfl⟩
  ·(refine AA (AI rfl (AI rfl ?_)) <;> (refine Bs rfl rfl (fun hc => ?_) (fun hc => ?_) <;> try omega))
   repeat' first | refine nx rfl ?_ | refine nf rfl ?_
   refine AA (AC (AI rfl ?_))
   repeat' first | refine nx rfl ?_ | fail
   exact AP rfl ⟨0, rfl, by omega, rfl⟩
theorem W_slss {P : Program} {all : Array Oper} {Z : Fr → DS → List PanicEntry → World → Prop} {K : Fr → DS → World → Prop} {rest : List Oper} {f : Fr} {ds : DS} {w : World} {d : Nat} {ty : TypeId} {pos : String} {af : Array Edge} {xt yt : TypeId} {x y : Operand} {s t : List UInt8}
  (hx : ev f x = AM s) (hy : ev f y = AM t) (h : ∀ b : Bool, AW P all Z K rest (upd f d (.bool b)) ds w) : AW P all Z K (⟨some d, .binOp .lss xt x y yt, ty, pos, af, none⟩ :: rest) f ds w :=
 Ax (v := .bool (Op.bytesLess s t)) rfl (by simp [execOp, hx, hy, eqGuard, binOp, Op.stringOp]) (h _)
theorem compare_ok : ∀ (n : Nat) (f g : Fml), SizeOf.sizeOf f ≤ n → ∀ (w : World) (v v' : Value), FAt A2 w v f → FAt A2 w v' g → Fn Tryz.prog 103 [v, v'] w fun r w' => ∃ c : Int, r = .int .i64 c ∧ (c = 0 ↔ f = g) ∧ Ext w w' := by
 intro n
 induction n with
 | zero => intro f g hn; cases f; simp at hn
 | succ n ih =>
 intro f g hn w v v' hf hg
 obtain ⟨av, rfl, L, hS, hL, h5, hA⟩ := hf.form
 obtain ⟨bv, rfl, M, hS', hL', h5', hA'⟩ := hg.form
 obtain ⟨aa, ac, rfl, _⟩ := id hS
 obtain ⟨ba, bc, rfl, _⟩ := id hS'
 have hla : f.args.length ≤ 9223372036854775807 := by obtain ⟨_, _, hv, g1, g2, _⟩ := id hS; cases hv; omega
 have hsz : ∀ x ∈ f.args, SizeOf.sizeOf x ≤ n := by
  intro x hx
  cases f with
  | mk o nm vl bd args =>
   have := List.sizeOf_lt_of_mem hx
   simp [Fml.args] at this hn
   omega
 refine Ac Tryz.func103 rfl Tryz.ntmps103 (Nat.le_of_ble_eq_true rfl) (by kernel_rfl) ?_
 repeat' first | refine nx rfl ?_ | fail
 (refine AA ?_; refine BY (L := [.int .i64 f.op, AM f.name, .int .i64 f.val, .int .i64 f.bound, .slice aa f.args.length ac]) rfl (fun w1 n1 => ?_))
 refine BY (L := [.int .i64 g.op, AM g.name, .int .i64 g.val, .int .i64 g.bound, .slice ba g.args.length bc]) rfl (fun w2 n2 => ?_)
 have a2 : Blk w2 w.heap.size 24 [.int .i64 f.op, AM f.name, .int .i64 f.val, .int .i64 f.bound, .slice aa f.args.length ac] := n1.blk.keep n2.keep (by simp)
 have b2 := n2.blk
 have k2 : Ext w w2 := n1.keep.trans n2.keep
 ((refine AC ?_; refine AI rfl ?_))
 repeat' first | refine nx rfl ?_ | fail
 (refine AA (AD rfl ?_) <;> refine AG rfl (Blk.cell (by assumption) (by rfl)) ?_ <;> refine AD rfl ?_ <;> refine AG rfl (Blk.cell (by assumption) (by rfl)) ?_)
 refine AS (ints_ok _ _ _) rfl ?_
 rintro _ w3 ⟨c0, rfl, h0, rfl⟩
 refine AC (AI rfl (AE ?_))
 refine Cu ?_
 refine Cx ?_
 refine B4 (α := Int) (fun c => [(2, pt w.heap.size), (3, pt w1.heap.size), (4, .int .i64 0), (5, .int .i64 c)]) (fun c W => Blk W w.heap.size 24 [.int .i64 f.op, AM f.name, .int .i64 f.val, .int .i64 f.bound, .slice aa f.args.length ac] ∧ Blk W w1.heap.size 24 [.int .i64 g.op, AM g.name, .int .i64 g.val, .int .i64 g.bound, .slice ba g.args.length bc] ∧ Ext w W ∧ (c = 0 ↔ f.op = g.op ∧ f.name = g.name)) ?_ ?_
 ·repeat' first | refine nx rfl ?_ | fail
  by_cases hc0 : c0 = 0
  ·by_cases hnm : f.name = g.name
   ·(refine AA (AI rfl ?_) <;> (refine AK rfl rfl (fun hc => ?_) (fun hc => ?_) <;> try omega) <;> refine AB rfl (AF rfl (AD rfl ?_)) <;> (refine AF rfl ?_; refine AG rfl (Blk.cell (by assumption) (by rfl)) ?_) <;> refine AF rfl (AD rfl ?_) <;> (refine AF rfl ?_; refine AG rfl (Blk.cell (by assumption) (by rfl)) ?_) <;> (refine AF rfl ?_; refine W_sneq rfl rfl (fun hc => ?_) (fun hc => ?_)) <;> refine AL rfl (AB rfl (AE ?_)))
    ·exact absurd hnm (by assumption)
    repeat' first | refine nx rfl ?_ | refine nf rfl ?_
    exact Ap c0 ⟨rfl, rfl, rfl, rfl, trivial⟩ ⟨a2, b2, k2, by simp_all⟩
   ·(refine AA (AI rfl ?_) <;> (refine AK rfl rfl (fun hc => ?_) (fun hc => ?_) <;> try omega) <;> refine AB rfl (AF rfl (AD rfl ?_)) <;> (refine AF rfl ?_; refine AG rfl (Blk.cell (by assumption) (by rfl)) ?_) <;> refine AF rfl (AD rfl ?_) <;> (refine AF rfl ?_; refine AG rfl (Blk.cell (by assumption) (by rfl)) ?_) <;> (refine AF rfl ?_; refine W_sneq rfl rfl (fun hc => ?_) (fun hc => ?_)) <;> refine AL rfl (AB rfl (AE ?_)))
    rotate_left
    ·exact absurd (by assumption) hnm
    repeat' first | refine nx rfl ?_ | fail
    refine AA (AC (AI rfl ?_))
    repeat' first | refine nx rfl ?_ | fail
    (refine AA (AD rfl ?_) <;> refine AG rfl (Blk.cell (by assumption) (by rfl)) ?_ <;> refine AD rfl ?_ <;> refine AG rfl (Blk.cell (by assumption) (by rfl)) ?_)
    refine W_slss rfl rfl (fun b => ?_)
    refine AE ?_
    cases b with
    | true =>
     repeat' first | refine nx rfl ?_ | fail
     refine AA (AC (AI rfl ?_))
     repeat' first | refine nx rfl ?_ | fail
     exact Ap (-1) ⟨rfl, rfl, rfl, rfl, trivial⟩ ⟨a2, b2, k2, by simp_all⟩
    | false =>
     repeat' first | refine nx rfl ?_ | refine nf rfl ?_
     exact Ap 1 ⟨rfl, rfl, rfl, rfl, trivial⟩ ⟨a2, b2, k2, by simp_all⟩
  ·(refine AA (AI rfl ?_) <;> (refine AK rfl rfl (fun hc => ?_) (fun hc => ?_) <;> try omega) <;> refine AB rfl (AJ rfl (AJ rfl (AJ rfl (AJ rfl (AJ rfl (AQ rfl (AB rfl ?_))))))))
   repeat' first | refine nx rfl ?_ | refine nf rfl ?_
   exact Ap c0 ⟨rfl, rfl, rfl, rfl, trivial⟩ ⟨a2, b2, k2, by simp_all⟩
 clear a2 b2 k2
 rintro c w3 f3 ⟨a2, b2, k2, hp⟩
 refine Cx ?_
 refine B4 (α := Int) (fun c => [(2, pt w.heap.size), (3, pt w1.heap.size), (4, .int .i64 0), (5, .int .i64 c)]) (fun c W => Blk W w.heap.size 24 [.int .i64 f.op, AM f.name, .int .i64 f.val, .int .i64 f.bound, .slice aa f.args.length ac] ∧ Blk W w1.heap.size 24 [.int .i64 g.op, AM g.name, .int .i64 g.val, .int .i64 g.bound, .slice ba g.args.length bc] ∧ Ext w W ∧ (c = 0 ↔ f.op = g.op ∧ f.name = g.name ∧ f.val = g.val)) ?_ ?_
 ·repeat' first | refine nx rfl ?_ | fail
  by_cases hc0 : c = 0
  ·(refine AA (AI rfl ?_) <;> (refine AK rfl rfl (fun hc => ?_) (fun hc => ?_) <;> try omega))
   repeat' first | refine nx rfl ?_ | fail
   (refine AA (AD rfl ?_) <;> refine AG rfl (Blk.cell (by assumption) (by rfl)) ?_ <;> refine AD rfl ?_ <;> refine AG rfl (Blk.cell (by assumption) (by rfl)) ?_)
   refine AS (ints_ok _ _ _) rfl ?_
   rintro _ w5 ⟨c5, rfl, h5c, rfl⟩
   ((refine AC ?_; refine AI rfl ?_))
   repeat' first | refine nx rfl ?_ | fail
   exact Ap c5 ⟨rfl, rfl, rfl, rfl, trivial⟩ ⟨a2, b2, k2, by have := hp.1 hc0; constructor <;> intro h <;> simp_all <;> omega⟩
  ·(refine AA (AI rfl ?_) <;> (refine AK rfl rfl (fun hc => ?_) (fun hc => ?_) <;> try omega))
   repeat' first | refine nx rfl ?_ | refine nf rfl ?_
   exact Ap c ⟨rfl, rfl, rfl, rfl, trivial⟩ ⟨a2, b2, k2, by constructor <;> intro h <;> simp_all⟩
 clear a2 b2 k2 hp
 rintro c w3 f3 ⟨a2, b2, k2, hp⟩
 refine Cx ?_
 refine B4 (α := Int) (fun c => [(2, pt w.heap.size), (3, pt w1.heap.size), (4, .int .i64 0), (5, .int .i64 c)]) (fun c W => Blk W w.heap.size 24 [.int .i64 f.op, AM f.name, .int .i64 f.val, .int .i64 f.bound, .slice aa f.args.length ac] ∧ Blk W w1.heap.size 24 [.int .i64 g.op, AM g.name, .int .i64 g.val, .int .i64 g.bound, .slice ba g.args.length bc] ∧ Ext w W ∧ (c = 0 ↔ f.op = g.op ∧ f.name = g.name ∧ f.val = g.val ∧ f.bound = g.bound)) ?_ ?_
 ·repeat' first | refine nx rfl ?_ | fail
  by_cases hc0 : c = 0
  ·(refine AA (AI rfl ?_) <;> (refine AK rfl rfl (fun hc => ?_) (fun hc => ?_) <;> try omega))
   repeat' first | refine nx rfl ?_ | fail
   (refine AA (AD rfl ?_) <;> refine AG rfl (Blk.cell (by assumption) (by rfl)) ?_ <;> refine AD rfl ?_ <;> refine AG rfl (Blk.cell (by assumption) (by rfl)) ?_)
   refine AS (ints_ok _ _ _) rfl ?_
   rintro _ w5 ⟨c5, rfl, h5c, rfl⟩
   ((refine AC ?_; refine AI rfl ?_))
   repeat' first | refine nx rfl ?_ | fail
   exact Ap c5 ⟨rfl, rfl, rfl, rfl, trivial⟩ ⟨a2, b2, k2, by have := hp.1 hc0; constructor <;> intro h <;> simp_all <;> omega⟩
  ·(refine AA (AI rfl ?_) <;> (refine AK rfl rfl (fun hc => ?_) (fun hc => ?_) <;> try omega))
   repeat' first | refine nx rfl ?_ | refine nf rfl ?_
   exact Ap c ⟨rfl, rfl, rfl, rfl, trivial⟩ ⟨a2, b2, k2, by constructor <;> intro h <;> simp_all⟩
 clear a2 b2 k2 hp
 rintro c w3 f3 ⟨a2, b2, k2, hp⟩
 refine Cx ?_
 refine B4 (α := Int) (fun c => [(2, pt w.heap.size), (3, pt w1.heap.size), (4, .int .i64 0), (5, .int .i64 c)]) (fun c W => Blk W w.heap.size 24 [.int .i64 f.op, AM f.name, .int .i64 f.val, .int .i64 f.bound, .slice aa f.args.length ac] ∧ Blk W w1.heap.size 24 [.int .i64 g.op, AM g.name, .int .i64 g.val, .int .i64 g.bound, .slice ba g.args.length bc] ∧ Ext w W ∧ (c = 0 ↔ f.op = g.op ∧ f.name = g.name ∧ f.val = g.val ∧ f.bound = g.bound ∧ f.args.length = g.args.length)) ?_ ?_
 ·repeat' first | refine nx rfl ?_ | fail
  by_cases hc0 : c = 0
  ·(refine AA (AI rfl ?_) <;> (refine AK rfl rfl (fun hc => ?_) (fun hc => ?_) <;> try omega))
   repeat' first | refine nx rfl ?_ | fail
   (refine AA (AD rfl ?_) <;> refine AG rfl (Blk.cell (by assumption) (by rfl)) ?_ <;> refine Aq rfl (AD rfl ?_) <;> refine AG rfl (Blk.cell (by assumption) (by rfl)) ?_ <;> refine Aq rfl ?_)
   refine AS (ints_ok _ _ _) rfl ?_
   rintro _ w5 ⟨c5, rfl, h5c, rfl⟩
   ((refine AC ?_; refine AI rfl ?_))
   repeat' first | refine nx rfl ?_ | fail
   exact Ap c5 ⟨rfl, rfl, rfl, rfl, trivial⟩ ⟨a2, b2, k2, by have := hp.1 hc0; constructor <;> intro h <;> simp_all <;> omega⟩
  ·(refine AA (AI rfl ?_) <;> (refine AK rfl rfl (fun hc => ?_) (fun hc => ?_) <;> try omega))
   repeat' first | refine nx rfl ?_ | refine nf rfl ?_
   exact Ap c ⟨rfl, rfl, rfl, rfl, trivial⟩ ⟨a2, b2, k2, by constructor <;> intro h <;> simp_all⟩
 clear a2 b2 k2 hp
 rintro c w3 f3 ⟨a2, b2, k2, hp⟩
 refine Cx ?_
 refine Cx ?_
 refine AA (AC (AI rfl ?_))
 repeat' first | refine nx rfl ?_ | fail
 refine BC (α := Nat × Int) (fun x => [(2, pt w.heap.size), (3, pt w1.heap.size), (4, .int .i64 0), (5, .int .i64 x.2), (6, .int .i64 (x.1 : Int))])
  (fun x W => x.1 ≤ f.args.length ∧ Ext w3 W ∧ (x.2 = 0 ↔ (f.op = g.op ∧ f.name = g.name ∧ f.val = g.val ∧ f.bound = g.bound ∧ f.args.length = g.args.length) ∧ ∀ j, j < x.1 → f.args[j]? = g.args[j]?)) (fun x => f.args.length - x.1) (0, c) ⟨rfl, rfl, rfl, rfl, rfl, trivial⟩
  ⟨by simp, Ext.refl _, by simp only; rw [hp]; exact ⟨fun h => ⟨h, fun j hj => by omega⟩, fun h => h.1⟩⟩ ?_
 rintro ⟨i, c'⟩ w4 f4 ⟨hi, k4, hpi⟩
 simp only at hi hpi ⊢
 repeat' first | refine nx rfl ?_ | fail
 have hend : ∀ (W : World), Ext w3 W → (c' = 0 → i = f.args.length) → ∃ c0 : Int, Value.int .i64 c' = .int .i64 c0 ∧ (c0 = 0 ↔ f = g) ∧ Ext w W := by
  intro W kW hii
  refine ⟨c', rfl, ?_, k2.trans kW⟩
  rw [fml_eq]
  constructor
  ·intro h
   obtain ⟨⟨h1, h2, h3, h4, h5⟩, h6⟩ := hpi.1 h
   refine ⟨h1, h2, h3, h4, List.ext_getElem? fun j => ?_⟩
   by_cases hj : j < i
   ·exact h6 j hj
   ·have := hii h
    rw [List.getElem?_eq_none (by omega), List.getElem?_eq_none (by omega)]
  ·rintro ⟨h1, h2, h3, h4, h5⟩
   exact hpi.2 ⟨⟨h1, h2, h3, h4, by rw [h5]⟩, fun j _ => by rw [h5]⟩
 have a4 := a2.keep k4 (by simp)
 have b4 := b2.keep k4 (by simp)
 by_cases hlt : i < f.args.length
 ·by_cases hc0 : c' = 0
  ·have hlen : f.args.length = g.args.length := (hpi.1 hc0).1.2.2.2.2
   have kk := k2.trans k4
   obtain ⟨x, hx⟩ : ∃ x, f.args[i]? = some x := ⟨_, List.getElem?_eq_getElem hlt⟩
   obtain ⟨y, hy⟩ : ∃ y, g.args[i]? = some y := ⟨_, List.getElem?_eq_getElem (by omega)⟩
   obtain ⟨cx, hcx⟩ : ∃ cx, L[i]? = some cx := ⟨_, List.getElem?_eq_getElem (by omega)⟩
   obtain ⟨cy, hcy⟩ : ∃ cy, M[i]? = some cy := ⟨_, List.getElem?_eq_getElem (by omega)⟩
   have hfx := (hA i cx x hcx hx).ext kk
   have hfy := (hA' i cy y hcy hy).ext kk
   have hx5 := h5 cx (List.mem_of_getElem? hcx)
   have hy5 := h5' cy (List.mem_of_getElem? hcy)
   obtain ⟨bx, ox, rfl, _, hcellx⟩ := (hS.ext kk).fml h5 hcx hlt
   obtain ⟨by', oy, rfl, _, hcelly⟩ := (hS'.ext kk).fml h5' hcy (by omega)
   obtain ⟨x0, x1, x2, x3, x4, rfl⟩ := CF hx5
   obtain ⟨y0, y1, y2, y3, y4, rfl⟩ := CF hy5
   (refine AA (AI rfl (AD rfl ?_)) <;> refine AG rfl (Blk.cell (by assumption) (by rfl)) ?_ <;> refine Aq rfl ?_ <;> (refine As rfl rfl (fun hc => ?_) (fun hc => ?_) <;> try omega) <;> refine AB rfl (AF rfl (AI rfl ?_)) <;> (refine AF rfl ?_; (refine AK rfl rfl (fun hc => ?_) (fun hc => ?_) <;> try omega)) <;> refine AL rfl (AB rfl ?_))
   repeat' first | refine nx rfl ?_ | fail
   refine BQ (.read 0 (.read 1 (.read 2 (.read 3 (.read 4 (.read 5 (.read 6 (.read 7 (.read 8 (.read 9 (.alt 10 (.read 11 .done) .stop))))))))))) BE (by kernel_rfl) (fun wd kd ed => ⟨Ext wd, ?_, ?_⟩)
   ·exact Ext.refl _
   have fa : ∀ W : World, Ext wd W → W.cell? ⟨w.heap.size, 0 + 4, none⟩ = some (.slice (some ⟨bx, ox, none⟩) f.args.length ac) := fun W e => ((a4.keep kd (by simp)).keep e (by simp)).cell rfl
   have fb : ∀ W : World, Ext wd W → W.cell? ⟨w1.heap.size, 0 + 4, none⟩ = some (.slice (some ⟨by', oy, none⟩) g.args.length bc) := fun W e => ((b4.keep kd (by simp)).keep e (by simp)).cell rfl
   have fc : ∀ W : World, Ext wd W → Cells W bx (ox + i * 5) [x0, x1, x2, x3, x4] := fun W e => (hcellx.keep kd (by simp)).keep e (by simp)
   have fd : ∀ W : World, Ext wd W → Cells W by' (oy + i * 5) [y0, y1, y2, y3, y4] := fun W e => (hcelly.keep kd (by simp)).keep e (by simp)
   ((apply D_R rfl rfl; (intro W hW; refine AD rfl ?_; exact AE ⟨rfl, rfl, rfl⟩)) <;> (apply D_R rfl rfl; (intro W hW; refine AG rfl (fa W hW) ?_; exact AE ⟨rfl, rfl, rfl⟩)) <;> (apply D_R rfl rfl; (intro W hW; refine AI rfl ?_; exact AE ⟨rfl, rfl, rfl⟩)) <;> (apply D_R rfl rfl; (intro W hW; refine Bd rfl rfl rfl (by omega) ?_; exact AE ⟨rfl, rfl, rfl⟩)) <;> (apply D_R rfl rfl; (intro W hW; refine AV rfl (by rfl) (fc W hW) ?_; exact AE ⟨rfl, rfl, rfl⟩)) <;> (apply D_R rfl rfl; (intro W hW; refine AD rfl ?_; exact AE ⟨rfl, rfl, rfl⟩)) <;> (apply D_R rfl rfl; (intro W hW; refine AG rfl (fb W hW) ?_; exact AE ⟨rfl, rfl, rfl⟩)) <;> (apply D_R rfl rfl; (intro W hW; refine AI rfl ?_; exact AE ⟨rfl, rfl, rfl⟩)) <;> (apply D_R rfl rfl; (intro W hW; refine Bd rfl rfl rfl (by omega) ?_; exact AE ⟨rfl, rfl, rfl⟩)) <;> (apply D_R rfl rfl; (intro W hW; refine AV rfl (by rfl) (fd W hW) ?_; exact AE ⟨rfl, rfl, rfl⟩)))
   refine D_E rfl ?_
   refine AS (ih x y (hsz x (List.mem_of_getElem? hx)) wd _ _ (hfx.ext kd) (hfy.ext kd)) rfl ?_
   rintro _ w6 ⟨c6, rfl, h6, k6⟩
   refine AE ⟨Ext w6, fun W e => k6.trans e, Ext.refl _, ?_⟩
   ((apply D_R rfl rfl; (intro W hW; (refine AC ?_; refine AI rfl ?_); exact AE ⟨rfl, rfl, rfl⟩)) <;> refine A3 ?_)
   repeat' first | refine nx rfl ?_ | fail
   (refine AA (AI rfl ?_) <;> refine BB rfl rfl (by first | exact Ak (by omega) (by omega) | exact Ar (by omega) (by omega) | exact Aj (by omega) (by omega)) ?_ <;> refine AC (AI rfl ?_))
   repeat' first | refine nx rfl ?_ | fail
   refine ⟨(i + 1, c6), ⟨rfl, ⟨rfl, rfl, rfl, rfl, ?_, trivial⟩, ⟨by simp only; omega, (k4.trans kd).trans k6, ?_⟩⟩, by simp only; omega⟩
   ·show Value.int .i64 ((i : Int) + 1) = _
    rw [Int.natCast_add]; rfl
   ·simp only
    rw [h6]
    obtain ⟨hh, hjj⟩ := hpi.1 hc0
    constructor
    ·rintro rfl
     refine ⟨hh, fun j hj => ?_⟩
     by_cases hji : j = i
     ·subst hji; rw [hx, hy]
     ·exact hjj j (by omega)
    ·rintro ⟨_, hj⟩
     have := hj i (by omega)
     rw [hx, hy] at this
     exact Option.some.inj this
  ·(refine AA (AI rfl (AD rfl ?_)) <;> refine AG rfl (Blk.cell (by assumption) (by rfl)) ?_ <;> refine Aq rfl ?_ <;> (refine As rfl rfl (fun hc => ?_) (fun hc => ?_) <;> try omega) <;> refine AB rfl (AF rfl (AI rfl ?_)) <;> (refine AF rfl ?_; (refine AK rfl rfl (fun hc => ?_) (fun hc => ?_) <;> try omega)) <;> refine AL rfl (AB rfl ?_))
   repeat' first | refine nx rfl ?_ | refine nf rfl ?_
   refine AA (AI rfl (AC (AI rfl ?_)))
   repeat' first | refine nx rfl ?_ | fail
   exact AP rfl (hend w4 k4 (fun h => absurd h hc0))
 ·(refine AA (AI rfl (AD rfl ?_)) <;> refine AG rfl (Blk.cell (by assumption) (by rfl)) ?_ <;> refine Aq rfl ?_ <;> (refine As rfl rfl (fun hc => ?_) (fun hc => ?_) <;> try omega) <;> refine AB rfl (AJ rfl (AJ rfl (AQ rfl (AB rfl ?_)))))
  repeat' first | refine nx rfl ?_ | refine nf rfl ?_
  refine AA (AI rfl (AC (AI rfl ?_)))
  repeat' first | refine nx rfl ?_ | fail
  exact AP rfl (hend w4 k4 (fun h => by omega))
theorem same_ok (w : World) (v v' : Value) (f g : Fml) (hf : FAt A2 w v f) (hg : FAt A2 w v' g) : Fn Tryz.prog 62 [v, v'] w fun r w' => ∃ b : Bool, r = .bool b ∧ (b = true ↔ f = g) ∧ Ext w w' := by
 obtain ⟨cs, rfl, hcs, hone⟩ := hf.cells
 obtain ⟨ds, rfl, hds, hone2⟩ := hg.cells
 obtain ⟨c0, c1, c2, c3, c4, rfl⟩ := CF hcs
 obtain ⟨d0, d1, d2, d3, d4, rfl⟩ := CF hds
 refine Ac Tryz.func62 rfl Tryz.ntmps62 (Nat.le_of_ble_eq_true rfl) (by kernel_rfl) ?_
 repeat' first | refine nx rfl ?_ | fail
 (refine AA ?_; refine BY (L := [c0, c1, c2, c3, c4]) rfl (fun w1 n1 => ?_))
 refine BY (L := [d0, d1, d2, d3, d4]) rfl (fun w2 n2 => ?_)
 have a2 := n1.blk.keep n2.keep (by simp)
 have b2 := n2.blk
 have k2 : Ext w w2 := n1.keep.trans n2.keep
 ((refine AC ?_; refine AB rfl ?_))
 repeat' first | refine nx rfl ?_ | fail
 (refine AA ?_; refine AY rfl a2 rfl ?_)
 refine AY rfl b2 rfl ?_
 refine AS (compare_ok _ f g (Nat.le_refl _) w2 _ _ (hf.ext k2) (hg.ext k2)) rfl ?_
 rintro _ w3 ⟨c, rfl, hcq, k3⟩
 by_cases h0 : c = 0
 ·((refine AK rfl rfl (fun hc => ?_) (fun hc => ?_) <;> try omega) <;> refine AC (AB rfl ?_))
  repeat' first | refine nx rfl ?_ | fail
  exact AP rfl ⟨true, rfl, by simp [hcq.1 h0], k2.trans k3⟩
 ·((refine AK rfl rfl (fun hc => ?_) (fun hc => ?_) <;> try omega) <;> refine AC (AB rfl ?_))
  repeat' first | refine nx rfl ?_ | fail
  exact AP rfl ⟨false, rfl, by simp; exact fun e => h0 (hcq.2 e), k2.trans k3⟩
end Go.Proofs.YtfcgdbmoncnibaaGreatDoor
namespace Go.Proofs.YtfcgdbmoncnibaaGreatDoor
open Go.RowKit
set_option linter.unusedVariables false
variable {mk : Prop} [MK mk]
abbrev FV (w : World) (v : Value) (f : Fml) : Prop := FAt A2 w v f
theorem rop_ok (w : World) (op : Int) (ok : Nat → Prop) (a : Option Addr) (c : Nat) (L : List (List Value)) (l : List Fml) (hS : Sl ok w (.slice a l.length c) l.length L.flatten) (hF : FsAt ok w L l) :
  Fn Tryz.prog 36 [.int .i64 op, .slice a l.length c] w fun v w' => Ext w w' ∧ FAt ok w' v ⟨op, [], 0, 0, l⟩ := by
 refine Ac Tryz.func36 rfl Tryz.ntmps36 (Nat.le_of_ble_eq_true rfl) (by kernel_rfl) ?_
 repeat' first | refine nx rfl ?_ | fail
 (refine AA ?_)
 refine Au (fun w1 n1 => ?_)
 have b1 : Blk w1 w.heap.size 24 CL := n1.blk
 repeat' first | refine nx rfl ?_ | fail
 (refine AA (AI rfl (Al rfl ?_)) <;> refine Ae (by rfl) (by rfl) ?_)
 refine Ad (cs := [.int .i64 op, AM [], .int .i64 0, .int .i64 0, .slice a l.length c]) rfl rfl rfl (BR rfl) b1 (by simp [CL]) (fun w2 p2 => ?_)
 have b2 : Blk w2 w.heap.size 24 [.int .i64 op, AM [], .int .i64 0, .int .i64 0, .slice a l.length c] := p2.blk
 repeat' first | refine nx rfl ?_ | fail
 have k2 : Ext w w2 := n1.keep.keep p2.keep (by simp)
 exact Az rfl rfl rfl b2.cells ⟨k2, FAt.node op [] 0 0 (hS.ext k2) (hF.ext k2)⟩
theorem rlate_ok (w : World) (op val : Int) (ok : Nat → Prop) (a : Option Addr) (c : Nat) (L : List (List Value)) (l : List Fml) (hS : Sl ok w (.slice a l.length c) l.length L.flatten) (hF : FsAt ok w L l) :
  Fn Tryz.prog 37 [.int .i64 op, .int .i64 val, .slice a l.length c] w fun v w' => Ext w w' ∧ FAt ok w' v ⟨op, [], val, 0, l⟩ := by
 refine Ac Tryz.func37 rfl Tryz.ntmps37 (Nat.le_of_ble_eq_true rfl) (by kernel_rfl) ?_
 repeat' first | refine nx rfl ?_ | fail
 (refine AA ?_)
 refine Au (fun w1 n1 => ?_)
 have b1 : Blk w1 w.heap.size 24 CL := n1.blk
 repeat' first | refine nx rfl ?_ | fail
 (refine AA (AI rfl (AI rfl (Al rfl ?_))) <;> refine Ae (by rfl) (by rfl) ?_)
 refine Ad (cs := [.int .i64 op, AM [], .int .i64 val, .int .i64 0, .slice a l.length c]) rfl rfl rfl (BR rfl) b1 (by simp [CL]) (fun w2 p2 => ?_)
 have b2 : Blk w2 w.heap.size 24 [.int .i64 op, AM [], .int .i64 val, .int .i64 0, .slice a l.length c] := p2.blk
 repeat' first | refine nx rfl ?_ | fail
 have k2 : Ext w w2 := n1.keep.keep p2.keep (by simp)
 exact Az rfl rfl rfl b2.cells ⟨k2, FAt.node op [] val 0 (hS.ext k2) (hF.ext k2)⟩
theorem ris_ok (w : World) (s : List UInt8) (n : Int) : Fn Tryz.prog 33 [AM s, .int .i64 n] w fun v w' => Ext w w' ∧ FV w' v (isF s n) := by
 refine Ac Tryz.func33 rfl Tryz.ntmps33 (Nat.le_of_ble_eq_true rfl) (by kernel_rfl) ?_
 repeat' first | refine nx rfl ?_ | fail
 (refine AA ?_)
 refine Au (fun w1 n1 => ?_)
 have b1 : Blk w1 w.heap.size 24 CL := n1.blk
 repeat' first | refine nx rfl ?_ | fail
 (refine AA (Ab rfl (AI rfl ?_)) <;> refine Ae (by rfl) (by rfl) ?_)
 refine Ad (cs := [.int .i64 3, AM s, .int .i64 n, .int .i64 0, .slice none 0 0]) rfl rfl rfl (BR rfl) b1 (by simp [CL]) (fun w2 p2 => ?_)
 have b2 : Blk w2 w.heap.size 24 [.int .i64 3, AM s, .int .i64 n, .int .i64 0, .slice none 0 0] := p2.blk
 repeat' first | refine nx rfl ?_ | fail
 exact Az rfl rfl rfl b2.cells ⟨n1.keep.keep p2.keep (by simp), FAt.leaf _ _ _ _ _ _⟩
theorem FAt.ret {ok : Nat → Prop} {w w' : World} {v : Value} {f : Fml} {b : Nat} {cs : List Value} (h : FAt (fun x => ok x ∧ x ≠ b) w v f) (e : v = .agg cs.toArray) (k : Keep [b] w w') : FAt ok w' (.agg cs.toArray) f := by
 rw [← e]
 exact (h.keep k (fun x hx => by simpa using hx.2)).mono fun x hx => hx.1
theorem roneX_ok (w : World) (op : Int) (ok : Nat → Prop) (v : Value) (f : Fml) (hf : FAt ok w v f) (hk : ok w.heap.size) (hk2 : ∀ x, w.heap.size ≤ x → ok x) : Fn Tryz.prog 35 [.int .i64 op, v] w fun v w' => Ext w w' ∧ FAt ok w' v ⟨op, [], 0, 0, [f]⟩ := by
 have hflt := hf.lt
 obtain ⟨cs, rfl, hcs, hone⟩ := hf.cells
 obtain ⟨c0, c1, c2, c3, c4, rfl⟩ := CF hcs
 refine Ac Tryz.func35 rfl Tryz.ntmps35 (Nat.le_of_ble_eq_true rfl) (by kernel_rfl) ?_
 repeat' first | refine nx rfl ?_ | fail
 (refine AA ?_; refine BY (L := [c0, c1, c2, c3, c4]) rfl (fun w1 n1 => ?_))
 refine Au (fun w2 n2 => ?_)
 have a2 := n1.blk.keep n2.keep (by simp)
 have b2 : Blk w2 w1.heap.size 24 CL := n2.blk
 have k2 : Ext w w2 := n1.keep.trans n2.keep
 have z1 := n1.size
 have z2 := n2.size
 repeat' first | refine nx rfl ?_ | fail
 refine AA (AI rfl ?_)
 refine AY rfl a2 rfl ?_
 refine AT (out := [c0, c1, c2, c3, c4]) rfl (by omega) (by rw [made5]; rfl) (fun w3 n3 => ?_)
 have z3 := n3.size
 obtain ⟨S3, F3⟩ := FsAt.fresh (ok := fun x => ok x ∧ x ≠ w1.heap.size) (L := [[c0, c1, c2, c3, c4]]) n3 (FsAt.one ((hflt.ext k2).mono fun x hx => ⟨hx.1, by omega⟩) rfl) ⟨hk2 _ (by omega), by omega⟩ (by simp)
 refine AS (rop_ok w3 op _ _ _ _ [f] S3 F3) rfl ?_
 rintro v w4 ⟨k4, f4⟩
 have b4 := (b2.keep n3.keep (by simp)).keep k4 (by simp)
 refine BZ rfl rfl f4 b4 rfl (fun w5 cs e hcs k5 z5 b5 => ?_)
 repeat' first | refine nx rfl ?_ | fail
 exact Az rfl rfl hcs b5.cells ⟨((k2.trans n3.keep).trans k4).keep k5 (by simp; omega), f4.ret e k5⟩
theorem rone_ok (w : World) (op : Int) (v : Value) (f : Fml) (hf : FV w v f) : Fn Tryz.prog 35 [.int .i64 op, v] w fun v w' => Ext w w' ∧ FV w' v ⟨op, [], 0, 0, [f]⟩ := roneX_ok w op A2 v f hf trivial fun _ _ => trivial
theorem rtwoX_ok (w : World) (op : Int) (ok : Nat → Prop) (v v' : Value) (f g : Fml) (hf : FAt ok w v f) (hg : FAt ok w v' g) (hk2 : ∀ x, w.heap.size ≤ x → ok x) : Fn Tryz.prog 34 [.int .i64 op, v, v'] w fun v w' => Ext w w' ∧ FAt ok w' v ⟨op, [], 0, 0, [f, g]⟩ := by
 have hflt := hf.lt
 have hglt := hg.lt
 obtain ⟨cs, rfl, hcs, hone⟩ := hf.cells
 obtain ⟨ds, rfl, hds, hone2⟩ := hg.cells
 obtain ⟨c0, c1, c2, c3, c4, rfl⟩ := CF hcs
 obtain ⟨d0, d1, d2, d3, d4, rfl⟩ := CF hds
 refine Ac Tryz.func34 rfl Tryz.ntmps34 (Nat.le_of_ble_eq_true rfl) (by kernel_rfl) ?_
 repeat' first | refine nx rfl ?_ | fail
 (refine AA ?_; refine BY (L := [c0, c1, c2, c3, c4]) rfl (fun w1 n1 => ?_))
 refine BY (L := [d0, d1, d2, d3, d4]) rfl (fun w2 n2 => ?_)
 refine Au (fun w3 n3 => ?_)
 have a3 := (n1.blk.keep n2.keep (by simp)).keep n3.keep (by simp)
 have d3' := n2.blk.keep n3.keep (by simp)
 have b3 : Blk w3 w2.heap.size 24 CL := n3.blk
 have k3 : Ext w w3 := (n1.keep.trans n2.keep).trans n3.keep
 have z1 := n1.size
 have z2 := n2.size
 have z3 := n3.size
 repeat' first | refine nx rfl ?_ | fail
 refine AA (AI rfl ?_)
 refine AY rfl a3 rfl ?_
 refine AY rfl d3' rfl ?_
 refine AT (out := [c0, c1, c2, c3, c4, d0, d1, d2, d3, d4]) rfl (by omega) (by rw [made10]; rfl) (fun w4 n4 => ?_)
 have z4 := n4.size
 obtain ⟨S4, F4⟩ := FsAt.fresh (ok := fun x => ok x ∧ x ≠ w2.heap.size) (L := [[c0, c1, c2, c3, c4], [d0, d1, d2, d3, d4]]) n4 (FsAt.two ((hflt.ext k3).mono fun x hx => ⟨hx.1, by omega⟩) rfl ((hglt.ext k3).mono fun x hx => ⟨hx.1, by omega⟩) rfl) ⟨hk2 _ (by omega), by omega⟩ (by simp)
 refine AS (rop_ok w4 op _ _ _ _ [f, g] S4 F4) rfl ?_
 rintro v w5 ⟨k5, f5⟩
 have b5 := (b3.keep n4.keep (by simp)).keep k5 (by simp)
 refine BZ rfl rfl f5 b5 rfl (fun w6 cs e hcs k6 z6 b6 => ?_)
 repeat' first | refine nx rfl ?_ | fail
 exact Az rfl rfl hcs b6.cells ⟨((k3.trans n4.keep).trans k5).keep k6 (by simp; omega), f5.ret e k6⟩
theorem Cg (w : World) (op : Int) (v v' : Value) (f g : Fml) (hf : FV w v f) (hg : FV w v' g) : Fn Tryz.prog 34 [.int .i64 op, v, v'] w fun v w' => Ext w w' ∧ FV w' v ⟨op, [], 0, 0, [f, g]⟩ := rtwoX_ok w op A2 v v' f g hf hg fun _ _ => trivial
theorem FAt.any {ok ok' : Nat → Prop} {w w' : World} {v : Value} {f : Fml} (h : FAt ok w v f) (h0 : f.args = []) : FAt ok' w' v f := by
 cases h with
 | mk op nm vl bd args av L hS hL h5 hA =>
  have h0' : args = [] := h0
  subst h0'
  obtain ⟨a, c, rfl, h1, h2, h3, _⟩ := hS
  exact .mk op nm vl bd [] _ [] ⟨a, c, rfl, h1, h2, h3, .inl rfl⟩ rfl (fun c hc => by cases hc) (fun i c g h => by simp at h)
end Go.Proofs.YtfcgdbmoncnibaaGreatDoor
namespace Go.Proofs.YtfcgdbmoncnibaaGreatDoor
open Go.RowKit
set_option linter.unusedVariables false
variable {mk : Prop} [MK mk]
theorem rqm_eq {r s : Rqm} : r = s ↔ r.part = s.part ∧ r.name = s.name ∧ r.kind = s.kind ∧ r.formula = s.formula := by
 obtain ⟨a, b, c, d⟩ := r; obtain ⟨a', b', c', d'⟩ := s; simp
theorem sameReq_ok (w : World) (c d : List Value) (r s : Rqm) (hr : reqR.fits A2 w c r) (hs : reqR.fits A2 w d s) : Fn Tryz.prog 63 [.agg c.toArray, .agg d.toArray] w fun v w' => ∃ b : Bool, v = .bool b ∧ (b = true ↔ r = s) ∧ Ext w w' := by
 obtain ⟨c', rfl, hc5, hcf⟩ := hr
 obtain ⟨d', rfl, hd5, hdf⟩ := hs
 obtain ⟨c0, c1, c2, c3, c4, rfl⟩ := CF hc5
 obtain ⟨d0, d1, d2, d3, d4, rfl⟩ := CF hd5
 refine Ac Tryz.func63 rfl Tryz.ntmps63 (Nat.le_of_ble_eq_true rfl) (by kernel_rfl) ?_
 repeat' first | refine nx rfl ?_ | fail
 (refine AA ?_; refine BY (L := [AM r.part, AM r.name, .int .i64 r.kind, c0, c1, c2, c3, c4]) rfl (fun w1 n1 => ?_))
 refine BY (L := [AM s.part, AM s.name, .int .i64 s.kind, d0, d1, d2, d3, d4]) rfl (fun w2 n2 => ?_)
 have a2 := n1.blk.keep n2.keep (by simp)
 have b2 := n2.blk
 have k2 : Ext w w2 := n1.keep.trans n2.keep
 ((refine AC ?_; refine AB rfl ?_))
 repeat' first | refine nx rfl ?_ | fail
 have ca : Cells w2 w.heap.size 3 [c0, c1, c2, c3, c4] := by
  have := a2.cells.part 3 5
  simpa using this
 have cb : Cells w2 w1.heap.size 3 [d0, d1, d2, d3, d4] := by
  have := b2.cells.part 3 5
  simpa using this
 (refine AA (AD rfl ?_) <;> refine AG rfl (Blk.cell (by assumption) (by rfl)) ?_ <;> refine AD rfl ?_ <;> refine AG rfl (Blk.cell (by assumption) (by rfl)) ?_ <;> refine Bu rfl rfl (fun hc => ?_) (fun hc => ?_) <;> refine AB rfl ?_ <;> (first | refine AJ rfl ?_ | (refine AF rfl ?_; refine AD rfl ?_)) <;> (first | refine AJ rfl ?_ | (refine AF rfl ?_; refine AG rfl (Blk.cell (by assumption) (by rfl)) ?_)) <;> (first | refine AJ rfl ?_ | (refine AF rfl ?_; refine AD rfl ?_)) <;> (first | refine AJ rfl ?_ | (refine AF rfl ?_; refine AG rfl (Blk.cell (by assumption) (by rfl)) ?_)) <;> (first | refine AJ rfl ?_ | (refine AF rfl ?_; refine Bu rfl rfl (fun hc => ?_) (fun hc => ?_))) <;> ((first | refine AL rfl ?_ | refine AQ rfl ?_); refine AB rfl ?_) <;> refine AB rfl ?_ <;> (first | refine AJ rfl ?_ | (refine AF rfl ?_; refine AD rfl ?_)) <;> (first | refine AJ rfl ?_ | (refine AF rfl ?_; refine AG rfl (Blk.cell (by assumption) (by rfl)) ?_)) <;> (first | refine AJ rfl ?_ | (refine AF rfl ?_; refine AD rfl ?_)) <;> (first | refine AJ rfl ?_ | (refine AF rfl ?_; refine AG rfl (Blk.cell (by assumption) (by rfl)) ?_)) <;> (first | refine AJ rfl ?_ | (refine AF rfl ?_; (refine AK rfl rfl (fun hc => ?_) (fun hc => ?_) <;> try omega))) <;> ((first | refine AL rfl ?_ | refine AQ rfl ?_); refine AB rfl ?_) <;> refine AB rfl ?_ <;> (first | refine AJ rfl ?_ | (refine AF rfl ?_; refine AD rfl ?_)))
 ·(refine AF rfl ?_; refine AV (L := [c0, c1, c2, c3, c4]) rfl rfl ca ?_)
  ((refine AF rfl ?_; refine AD rfl ?_))
  (refine AF rfl ?_; refine AV (L := [d0, d1, d2, d3, d4]) rfl rfl cb ?_)
  (refine AF rfl ?_; refine AS (same_ok w2 _ _ r.formula s.formula (hcf.ext k2) (hdf.ext k2)) rfl ?_)
  rintro _ w3 ⟨b, rfl, hb, k3⟩
  refine AL rfl (AB rfl (AC (AB rfl ?_)))
  repeat' first | refine nx rfl ?_ | fail
  exact AP rfl ⟨b, rfl, by rw [hb, rqm_eq]; exact ⟨fun h => ⟨by assumption, by assumption, by assumption, h⟩, fun h => h.2.2.2⟩, k2.trans k3⟩
 all_goals
  refine AJ rfl (AJ rfl (AJ rfl (AJ rfl (AQ rfl (AB rfl (AC (AB rfl ?_)))))))
  repeat' first | refine nx rfl ?_ | fail
  refine AP rfl ⟨false, rfl, ?_, k2⟩
  rw [rqm_eq]
  constructor
  ·intro h; cases h
  ·rintro ⟨h1, h2, h3, h4⟩
   exfalso
   first | exact absurd h1 (by assumption) | exact absurd h2 (by assumption) | exact absurd h3 (by assumption)
theorem Sl.recs {α : Type} {R : Rp α} {ok : Nat → Prop} {w : World} {a : Option Addr} {n cap k sz : Nat} {L : List (List Value)} {l : List α} {c : List Value} (h : Sl ok w (.slice a n cap) n L.flatten) (hR : RsAt R ok w L l) (hsz : R.size = sz) (hk : L[k]? = some c) (hn : k < n) :
  ∃ b o, a = some ⟨b, o, none⟩ ∧ ok b ∧ Cells w b (o + k * sz) c := by
 obtain ⟨a', cap', hv, h1, h2, h3, h4⟩ := h
 cases hv
 obtain ⟨b, o, rfl, hb, hc⟩ := h4.resolve_left (by omega)
 refine ⟨b, o, rfl, hb, fun j v hv => ?_⟩
 have := hc _ _ (Cv sz L k j c v (fun c hc => by rw [hR.len c hc, hsz]) hk hv)
 rwa [← Nat.add_assoc] at this
theorem SlAt.ext {α : Type} {R : Rp α} {ok : Nat → Prop} {w w' : World} {v : Value} {l : List α} (h : SlAt R ok w v l) (k : Ext w w') : SlAt R ok w' v l := by
 obtain ⟨a, c, L, e, h1, h2⟩ := h
 exact ⟨a, c, L, e, h1.ext k, h2.ext k⟩
theorem sameReqs_ok (w : World) (v v' : Value) (l m : List Rqm) (hl : SlAt reqR A2 w v l) (hm : SlAt reqR A2 w v' m) : Fn Tryz.prog 60 [v, v'] w fun v w' => ∃ b : Bool, v = .bool b ∧ (b = true ↔ l = m) ∧ Ext w w' := by
 obtain ⟨a, c, L, rfl, hS, hF⟩ := hl
 obtain ⟨a', c', M, rfl, hS', hF'⟩ := hm
 have hlm : l.length ≤ 9223372036854775807 := by obtain ⟨_, _, hv, g1, g2, _⟩ := id hS; cases hv; omega
 refine Ac Tryz.func60 rfl Tryz.ntmps60 (Nat.le_of_ble_eq_true rfl) (by kernel_rfl) ?_
 repeat' first | refine nx rfl ?_ | fail
 refine AA (AC (AB rfl ?_))
 repeat' first | refine nx rfl ?_ | fail
 by_cases hlen : l.length = m.length
 ·(refine AA (Al rfl (Aq rfl (Al rfl (Aq rfl ?_)))) <;> (refine Cj rfl rfl (fun hc => ?_) (fun hc => ?_) <;> try omega))
  repeat' first | refine nx rfl ?_ | refine nf rfl ?_
  refine AA (AC (AI rfl ?_))
  repeat' first | refine nx rfl ?_ | fail
  refine BC (α := Nat) (fun k => [(0, .slice a l.length c), (1, .slice a' m.length c'), (5, .int .i64 (k : Int))]) (fun k W => k ≤ l.length ∧ Ext w W ∧ ∀ j, j < k → l[j]? = m[j]?) (fun k => l.length - k) 0 ⟨rfl, rfl, rfl, trivial⟩ ⟨by omega, Ext.refl _, fun j hj => by omega⟩ ?_
  rintro k w3 f3 ⟨hk, k3, hj⟩
  repeat' first | refine nx rfl ?_ | fail
  by_cases hlt : k < l.length
  ·obtain ⟨x, hx⟩ : ∃ x, l[k]? = some x := ⟨_, List.getElem?_eq_getElem hlt⟩
   obtain ⟨y, hy⟩ : ∃ y, m[k]? = some y := ⟨_, List.getElem?_eq_getElem (by omega)⟩
   obtain ⟨cx, hcx⟩ : ∃ cx, L[k]? = some cx := ⟨_, List.getElem?_eq_getElem (by rw [hF.1]; exact hlt)⟩
   obtain ⟨cy, hcy⟩ : ∃ cy, M[k]? = some cy := ⟨_, List.getElem?_eq_getElem (by rw [hF'.1]; omega)⟩
   have fx := reqR.ext (hF.2 k cx x hcx hx) k3
   have fy := reqR.ext (hF'.2 k cy y hcy hy) k3
   obtain ⟨bx, ox, rfl, _, hcellx⟩ := (hS.ext k3).recs (hF.ext k3) (sz := 8) rfl hcx hlt
   obtain ⟨by', oy, rfl, _, hcelly⟩ := (hS'.ext k3).recs (hF'.ext k3) (sz := 8) rfl hcy (by omega)
   have hlx : cx.length = 8 := reqR.len fx
   have hly : cy.length = 8 := reqR.len fy
   (refine AA (AI rfl (Al rfl (Aq rfl ?_))) <;> (refine As rfl rfl (fun hc => ?_) (fun hc => ?_) <;> try omega))
   repeat' first | refine nx rfl ?_ | fail
   refine BQ (.read 0 (.read 1 (.read 2 (.read 3 (.read 4 (.read 5 (.read 6 (.read 7 (.alt 8 (.read 9 .done) .stop))))))))) BE (by kernel_rfl) (fun wd kd ed => ⟨Ext wd, ?_, ?_⟩)
   ·exact Ext.refl _
   refine D_R rfl rfl (fun W hW => by refine AU ?_; exact AE ⟨rfl, rfl, rfl⟩) ?_
   refine D_R rfl rfl (fun W hW => by refine AU ?_; exact AE ⟨rfl, rfl, rfl⟩) ?_
   refine D_R rfl rfl (fun W hW => by refine Bd (k := k) rfl rfl rfl (by omega) ?_; exact AE ⟨rfl, rfl, rfl⟩) ?_
   refine D_R (v := .agg cx.toArray) rfl rfl (fun W hW => by refine AV rfl hlx ((hcellx.keep kd (by simp)).keep hW (by simp)) ?_; exact AE ⟨rfl, rfl, rfl⟩) ?_
   refine D_R rfl rfl (fun W hW => by refine AU ?_; exact AE ⟨rfl, rfl, rfl⟩) ?_
   refine D_R rfl rfl (fun W hW => by refine AU ?_; exact AE ⟨rfl, rfl, rfl⟩) ?_
   refine D_R rfl rfl (fun W hW => by refine Bd (k := k) rfl rfl rfl (by omega) ?_; exact AE ⟨rfl, rfl, rfl⟩) ?_
   refine D_R (v := .agg cy.toArray) rfl rfl (fun W hW => by refine AV rfl hly ((hcelly.keep kd (by simp)).keep hW (by simp)) ?_; exact AE ⟨rfl, rfl, rfl⟩) ?_
   refine D_E rfl ?_
   refine AS (sameReq_ok wd cx cy x y (reqR.ext fx kd) (reqR.ext fy kd)) rfl ?_
   rintro _ w6 ⟨b, rfl, hb, k6⟩
   refine AE ⟨Ext w6, fun W e => k6.trans e, Ext.refl _, ?_⟩
   ((apply D_R rfl rfl; (intro W hW; (refine AC ?_; refine AB rfl ?_); exact AE ⟨rfl, rfl, rfl⟩)) <;> refine A3 ?_)
   repeat' first | refine nx rfl ?_ | fail
   refine AA (AB rfl (A7 rfl (AE ?_)))
   cases b with
   | true =>
    have hxy := hb.1 rfl
    subst hxy
    repeat' first | refine nx rfl ?_ | refine nf rfl ?_
    (refine AA (AI rfl ?_) <;> refine BB rfl rfl (by first | exact Ak (by omega) (by omega) | exact Ar (by omega) (by omega) | exact Aj (by omega) (by omega)) ?_ <;> refine AC (AI rfl ?_))
    repeat' first | refine nx rfl ?_ | fail
    refine ⟨k + 1, ⟨rfl, ⟨rfl, rfl, ?_, trivial⟩, ⟨by omega, (k3.trans kd).trans k6, fun j hjj => ?_⟩⟩, by omega⟩
    ·show Value.int .i64 ((k : Int) + 1) = _
     rw [Int.natCast_add]; rfl
    ·by_cases hjk : j = k
     ·subst hjk; rw [hx, hy]
     ·exact hj j (by omega)
   | false =>
    repeat' first | refine nx rfl ?_ | fail
    refine AA (AC (AB rfl ?_))
    repeat' first | refine nx rfl ?_ | fail
    refine AP rfl ⟨false, rfl, ?_, (k3.trans kd).trans k6⟩
    constructor
    ·intro h; cases h
    ·intro h
     exfalso
     have e1 : x = y := by rw [h, hy] at hx; exact (Option.some.inj hx).symm
     have := hb.2 e1
     cases this
  ·(refine AA (AI rfl (Al rfl (Aq rfl ?_))) <;> (refine As rfl rfl (fun hc => ?_) (fun hc => ?_) <;> try omega))
   repeat' first | refine nx rfl ?_ | refine nf rfl ?_
   refine AA (AC (AB rfl ?_))
   repeat' first | refine nx rfl ?_ | fail
   refine AP rfl ⟨true, rfl, ?_, k3⟩
   refine ⟨fun _ => List.ext_getElem? fun i => ?_, fun _ => rfl⟩
   by_cases hi : i < k
   ·exact hj i hi
   ·rw [List.getElem?_eq_none (by omega), List.getElem?_eq_none (by omega)]
 ·(refine AA (Al rfl (Aq rfl (Al rfl (Aq rfl ?_)))) <;> (refine Cj rfl rfl (fun hc => ?_) (fun hc => ?_) <;> try omega))
  repeat' first | refine nx rfl ?_ | fail
  refine AA (AC (AB rfl ?_))
  repeat' first | refine nx rfl ?_ | fail
  exact AP rfl ⟨false, rfl, ⟨fun h => (by cases h), fun h => absurd (by rw [h]) hlen⟩, Ext.refl _⟩
theorem sgn_same (x y : Sgn) : ∀ p ∈ [(0, 9), (1, 4), (2, 3)], ∃ a b, (CC x)[p.1]? = some a ∧ (CC y)[p.1]? = some b ∧ sameSort Tryz.prog p.2 a b := by
 intro p hp
 simp only [List.mem_cons, List.not_mem_nil, or_false] at hp
 rcases hp with rfl | rfl | rfl
 ·exact ⟨_, _, rfl, rfl, Tryz.underlying9⟩
 ·exact ⟨_, _, rfl, rfl, Tryz.underlying4⟩
 ·exact ⟨_, _, rfl, rfl, rfl, Tryz.underlying3⟩
theorem sgn_eq {x y : Sgn} (h : ∀ p ∈ ([(0, 9), (1, 4), (2, 3)] : List (Nat × TypeId)), (CC x)[p.1]? = (CC y)[p.1]?) : x = y := by
 have h0 := h (0, 9) (by simp)
 have h1 := h (1, 4) (by simp)
 have h2 := h (2, 3) (by simp)
 cases x; cases y
 simp [CC] at h0 h1 h2
 simp [h0, h1, h2]
theorem sameSgn_ok (w : World) (v v' : Value) (l m : List Sgn) (hl : SlAt sgnR A2 w v l) (hm : SlAt sgnR A2 w v' m) : Fn Tryz.prog 59 [v, v'] w fun v w' => ∃ b : Bool, v = .bool b ∧ (b = true ↔ l = m) ∧ Ext w w' := by
 obtain ⟨a, c, L, rfl, hS, hF⟩ := hl
 obtain ⟨a', c', M, rfl, hS', hF'⟩ := hm
 have hlm : l.length ≤ 9223372036854775807 := by obtain ⟨_, _, hv, g1, g2, _⟩ := id hS; cases hv; omega
 refine Ac Tryz.func59 rfl Tryz.ntmps59 (Nat.le_of_ble_eq_true rfl) (by kernel_rfl) ?_
 repeat' first | refine nx rfl ?_ | fail
 refine AA (AC (AB rfl ?_))
 repeat' first | refine nx rfl ?_ | fail
 by_cases hlen : l.length = m.length
 ·(refine AA (Al rfl (Aq rfl (Al rfl (Aq rfl ?_)))) <;> (refine Cj rfl rfl (fun hc => ?_) (fun hc => ?_) <;> try omega))
  repeat' first | refine nx rfl ?_ | refine nf rfl ?_
  refine AA (AC (AI rfl ?_))
  repeat' first | refine nx rfl ?_ | fail
  refine BC (α := Nat) (fun k => [(0, .slice a l.length c), (1, .slice a' m.length c'), (5, .int .i64 (k : Int))]) (fun k W => k ≤ l.length ∧ Ext w W ∧ ∀ j, j < k → l[j]? = m[j]?) (fun k => l.length - k) 0 ⟨rfl, rfl, rfl, trivial⟩ ⟨by omega, Ext.refl _, fun j hj => by omega⟩ ?_
  rintro k w3 f3 ⟨hk, k3, hj⟩
  repeat' first | refine nx rfl ?_ | fail
  by_cases hlt : k < l.length
  ·obtain ⟨x, hx⟩ : ∃ x, l[k]? = some x := ⟨_, List.getElem?_eq_getElem hlt⟩
   obtain ⟨y, hy⟩ : ∃ y, m[k]? = some y := ⟨_, List.getElem?_eq_getElem (by omega)⟩
   obtain ⟨cx, hcx⟩ : ∃ cx, L[k]? = some cx := ⟨_, List.getElem?_eq_getElem (by rw [hF.1]; exact hlt)⟩
   obtain ⟨cy, hcy⟩ : ∃ cy, M[k]? = some cy := ⟨_, List.getElem?_eq_getElem (by rw [hF'.1]; omega)⟩
   obtain rfl : cx = CC x := hF.2 k cx x hcx hx
   obtain rfl : cy = CC y := hF'.2 k cy y hcy hy
   obtain ⟨bx, ox, rfl, _, hcellx⟩ := (hS.ext k3).recs (hF.ext k3) (sz := 3) rfl hcx hlt
   obtain ⟨by', oy, rfl, _, hcelly⟩ := (hS'.ext k3).recs (hF'.ext k3) (sz := 3) rfl hcy (by omega)
   (refine AA (AI rfl (Al rfl (Aq rfl ?_))) <;> (refine As rfl rfl (fun hc => ?_) (fun hc => ?_) <;> try omega))
   repeat' first | refine nx rfl ?_ | fail
   refine BQ (.read 0 (.read 1 (.read 2 (.read 3 (.read 4 (.read 5 (.read 6 (.read 7 (.read 8 .done))))))))) BE (by kernel_rfl) (fun wd kd ed => ⟨fun W => W = wd, ?_, ?_⟩)
   ·rfl
   refine D_R rfl rfl (fun W hW => by refine AU ?_; exact AE ⟨rfl, rfl, rfl⟩) ?_
   refine D_R rfl rfl (fun W hW => by refine AU ?_; exact AE ⟨rfl, rfl, rfl⟩) ?_
   refine D_R rfl rfl (fun W hW => by refine Bd (k := k) rfl rfl rfl (by omega) ?_; exact AE ⟨rfl, rfl, rfl⟩) ?_
   refine D_R (v := .agg (CC x).toArray) rfl rfl (fun W hW => by subst hW; refine AV rfl rfl (hcellx.keep kd (by simp)) ?_; exact AE ⟨rfl, rfl, rfl⟩) ?_
   refine D_R rfl rfl (fun W hW => by refine AU ?_; exact AE ⟨rfl, rfl, rfl⟩) ?_
   refine D_R rfl rfl (fun W hW => by refine AU ?_; exact AE ⟨rfl, rfl, rfl⟩) ?_
   refine D_R rfl rfl (fun W hW => by refine Bd (k := k) rfl rfl rfl (by omega) ?_; exact AE ⟨rfl, rfl, rfl⟩) ?_
   refine D_R (v := .agg (CC y).toArray) rfl rfl (fun W hW => by subst hW; refine AV rfl rfl (hcelly.keep kd (by simp)) ?_; exact AE ⟨rfl, rfl, rfl⟩) ?_
   by_cases hxy : x = y
   ·subst hxy
    refine D_R (v := .bool false) rfl rfl (fun W hW => ?_) ?_
    ·refine W_flNeq (xs := CC x) (ys := CC x) rfl rfl (sgn_same x x) (fun r hr => ?_)
     obtain rfl : r = true := hr.2 fun _ _ => rfl
     exact AE ⟨rfl, rfl, rfl⟩
    refine A3 ?_
    repeat' first | refine nx rfl ?_ | refine nf rfl ?_
    (refine AA (AI rfl ?_) <;> refine BB rfl rfl (by first | exact Ak (by omega) (by omega) | exact Ar (by omega) (by omega) | exact Aj (by omega) (by omega)) ?_ <;> refine AC (AI rfl ?_))
    repeat' first | refine nx rfl ?_ | fail
    refine ⟨k + 1, ⟨rfl, ⟨rfl, rfl, ?_, trivial⟩, ⟨by omega, k3.trans kd, fun j hjj => ?_⟩⟩, by omega⟩
    ·show Value.int .i64 ((k : Int) + 1) = _
     rw [Int.natCast_add]; rfl
    ·by_cases hjk : j = k
     ·subst hjk; rw [hx, hy]
     ·exact hj j (by omega)
   ·refine D_R (v := .bool true) rfl rfl (fun W hW => ?_) ?_
    ·refine W_flNeq (xs := CC x) (ys := CC y) rfl rfl (sgn_same x y) (fun r hr => ?_)
     obtain rfl : r = false := by
      cases r with
      | false => rfl
      | true => exact absurd (sgn_eq (hr.1 rfl)) hxy
     exact AE ⟨rfl, rfl, rfl⟩
    refine A3 ?_
    repeat' first | refine nx rfl ?_ | fail
    refine AA (AC (AB rfl ?_))
    repeat' first | refine nx rfl ?_ | fail
    refine AP rfl ⟨false, rfl, ?_, k3.trans kd⟩
    constructor
    ·intro h; cases h
    ·intro h
     exfalso
     apply hxy
     rw [h, hy] at hx; exact (Option.some.inj hx).symm
  ·(refine AA (AI rfl (Al rfl (Aq rfl ?_))) <;> (refine As rfl rfl (fun hc => ?_) (fun hc => ?_) <;> try omega))
   repeat' first | refine nx rfl ?_ | refine nf rfl ?_
   refine AA (AC (AB rfl ?_))
   repeat' first | refine nx rfl ?_ | fail
   refine AP rfl ⟨true, rfl, ?_, k3⟩
   refine ⟨fun _ => List.ext_getElem? fun i => ?_, fun _ => rfl⟩
   by_cases hi : i < k
   ·exact hj i hi
   ·rw [List.getElem?_eq_none (by omega), List.getElem?_eq_none (by omega)]
 ·(refine AA (Al rfl (Aq rfl (Al rfl (Aq rfl ?_)))) <;> (refine Cj rfl rfl (fun hc => ?_) (fun hc => ?_) <;> try omega))
  repeat' first | refine nx rfl ?_ | fail
  refine AA (AC (AB rfl ?_))
  repeat' first | refine nx rfl ?_ | fail
  exact AP rfl ⟨false, rfl, ⟨fun h => (by cases h), fun h => absurd (by rw [h]) hlen⟩, Ext.refl _⟩
theorem spc_eq {r s : Spc} : r = s ↔ r.sigs = s.sigs ∧ r.reqs = s.reqs := by
 obtain ⟨a, b⟩ := r; obtain ⟨a', b'⟩ := s; simp
theorem sameSpec_ok (w : World) (c d : List Value) (r s : Spc) (hr : spcR.fits A2 w c r) (hs : spcR.fits A2 w d s) : Fn Tryz.prog 25 [.agg c.toArray, .agg d.toArray] w fun v w' => ∃ b : Bool, v = .bool b ∧ (b = true ↔ r = s) ∧ Ext w w' := by
 obtain ⟨sv, rv, rfl, h1, h2⟩ := hr
 obtain ⟨sv', rv', rfl, h1', h2'⟩ := hs
 have e1 := h1
 have e2 := h2
 have e1' := h1'
 have e2' := h2'
 obtain ⟨_, _, _, rfl, _⟩ := e1
 obtain ⟨_, _, _, rfl, _⟩ := e2
 obtain ⟨_, _, _, rfl, _⟩ := e1'
 obtain ⟨_, _, _, rfl, _⟩ := e2'
 refine Ac Tryz.func25 rfl Tryz.ntmps25 (Nat.le_of_ble_eq_true rfl) (by kernel_rfl) ?_
 repeat' first | refine nx rfl ?_ | fail
 (refine AA ?_; refine BY (L := [_, _]) rfl (fun w1 n1 => ?_))
 refine BY (L := [_, _]) rfl (fun w2 n2 => ?_)
 have a2 := n1.blk.keep n2.keep (by simp)
 have b2 := n2.blk
 have k2 : Ext w w2 := n1.keep.trans n2.keep
 ((refine AC ?_; refine AB rfl ?_))
 repeat' first | refine nx rfl ?_ | fail
 (refine AA (AD rfl ?_) <;> refine AG rfl (Blk.cell (by assumption) (by rfl)) ?_ <;> refine AD rfl ?_ <;> refine AG rfl (Blk.cell (by assumption) (by rfl)) ?_)
 refine AS (sameSgn_ok w2 _ _ _ _ (h1.ext k2) (h1'.ext k2)) rfl ?_
 rintro _ w3 ⟨b, rfl, hb, k3⟩
 have a3 := a2.keep k3 (by simp)
 have b3 := b2.keep k3 (by simp)
 cases b with
 | true =>
  (refine AB rfl (AF rfl (AD rfl ?_)) <;> (refine AF rfl ?_; refine AG rfl (Blk.cell (by assumption) (by rfl)) ?_) <;> refine AF rfl (AD rfl ?_) <;> (refine AF rfl ?_; refine AG rfl (Blk.cell (by assumption) (by rfl)) ?_))
  (refine AF rfl ?_; refine AS (sameReqs_ok w3 _ _ _ _ ((h2.ext k2).ext k3) ((h2'.ext k2).ext k3)) rfl ?_)
  rintro _ w4 ⟨b, rfl, hb2, k4⟩
  refine AL rfl (AB rfl (AC (AB rfl ?_)))
  repeat' first | refine nx rfl ?_ | fail
  exact AP rfl ⟨b, rfl, by rw [hb2, spc_eq]; exact ⟨fun h => ⟨hb.1 rfl, h⟩, fun h => h.2⟩, (k2.trans k3).trans k4⟩
 | false =>
  refine AB rfl (AJ rfl (AJ rfl (AJ rfl (AJ rfl ?_))))
  refine AJ rfl (AQ rfl (AB rfl (AC (AB rfl ?_))))
  repeat' first | refine nx rfl ?_ | fail
  refine AP rfl ⟨false, rfl, ?_, k2.trans k3⟩
  rw [spc_eq]
  exact ⟨fun h => (by cases h), fun h => absurd (hb.2 h.1) (by simp)⟩
end Go.Proofs.YtfcgdbmoncnibaaGreatDoor
