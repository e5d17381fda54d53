/- The shape of a node: formula.shaped. The canonical form, plain: the order of formulas, lists without repetitions, truth. The canonical form, plain: it is built of canonical parts; what is left of it after a letter. The canonical form, plain: joins within joins, what a letter leaves of a join. The canonical form, plain: what a letter leaves of a kernel, and of its canonical form. Past nodes and a memory, plain; residuals under Next. Joins: what holds behind a branch, as a function of a state. Conditions: none. -/
import Derived.Test.YtkhhjdjmhbdjfaaGreatDoorQT3

namespace Go.Proofs.YtkhhjdjmhbdjfaaGreatDoor
open Go.RowKit
set_option linter.unusedVariables false
variable {mk : Prop} [MK mk]
theorem PF.all {ok : Nat → Prop} {w : World} {b o : Nat} {f : Fml} (h : PF ok w b o f) : ∃ a c, f.args.length ≤ 9223372036854775807 ∧ w.cell? ⟨b, o + 0, none⟩ = some (.int .i64 f.op) ∧ w.cell? ⟨b, o + 1, none⟩ = some (An f.name) ∧ w.cell? ⟨b, o + 2, none⟩ = some (.int .i64 f.val) ∧
  w.cell? ⟨b, o + 3, none⟩ = some (.int .i64 f.bound) ∧ w.cell? ⟨b, o + 4, none⟩ = some (.slice a f.args.length c) ∧ ∀ (k : Nat) (x : Fml), f.args[k]? = some x → ∃ b' o', a = some ⟨b', o', none⟩ ∧ PF ok w b' (o' + k * 5) x := by
 obtain ⟨a, c, h1, h2, h3⟩ := h.arg
 obtain ⟨_, a', c', L, hc, _⟩ := h.form
 exact ⟨a, c, h1, hc 0 _ rfl, hc 1 _ rfl, hc 2 _ rfl, hc 3 _ rfl, h2, h3⟩
def shapeX (x : Form) (nm : List UInt8) (v b n : Int) : Bool := decide (x.least ≤ n) && decide (n ≤ x.most) && decide (0 ≤ v) && decide (v ≤ x.val) && decide (0 ≤ b) && decide (b ≤ x.bound) && if x.named then nameB nm else decide (nm = [])
def shapeF (f : Fml) : Bool := isOpB f.op && shapeX (BR f.op) f.name f.val f.bound f.args.length
theorem shapeF_eq (f : Fml) (h : f.args.length ≤ 1000000) : shapeF f = BX f.op f.name f.val f.bound f.args.length := by
 unfold shapeF
 cases hb : isOpB f.op with
 | false =>
  unfold BX
  simp only [isOpB, Bool.and_eq_false_iff, decide_eq_false_iff_not] at hb
  cases hs : (decide (1 ≤ f.op) && decide (f.op ≤ 19))
  ·simp
  ·simp at hs; omega
 | true =>
  have h1 : 1 ≤ f.op ∧ f.op < 20 := by simpa [isOpB] using hb
  have hm : BR f.op = formsL.getD f.op.toNat zeroForm := by unfold BR; rw [if_pos hb]
  rw [hm]
  obtain ⟨op, nm, v, b, args⟩ := f
  simp only [Fml.op, Fml.name, Fml.val, Fml.bound, Fml.args] at *
  have he : nm.isEmpty = decide (nm = []) := by cases nm <;> simp
  have : op = 1 ∨ op = 2 ∨ op = 3 ∨ op = 4 ∨ op = 5 ∨ op = 6 ∨ op = 7 ∨ op = 8 ∨ op = 9 ∨ op = 10 ∨ op = 11 ∨ op = 12 ∨ op = 13 ∨ op = 14 ∨ op = 15 ∨ op = 16 ∨ op = 17 ∨ op = 18 ∨ op = 19 := by omega
  rcases this with rfl | rfl | rfl | rfl | rfl | rfl | rfl | rfl | rfl | rfl | rfl | rfl | rfl | rfl | rfl | rfl | rfl | rfl | rfl
  all_goals
   simp [formsL, shapeX, BX, A8, he]
   try (congr 1; congr 1; congr 1; congr 1; rw [Bool.eq_iff_iff]; simp; omega)
theorem shaped_ok (w : World) (b o : Nat) (f : Fml) (hf : PF As w b o f) (hG : GF w) (hK : KY w) (hl : f.args.length ≤ 1000000) : Fn Tryz.prog 110 [.pointer (some ⟨b, o, none⟩)] w fun v w' => v = .bool (shapeF f) ∧ Ext w w' := by
 refine AR Tryz.func110 rfl Tryz.ntmps110 (Nat.le_of_ble_eq_true rfl) (by kernel_rfl) ?_
 repeat refine nx rfl ?_
 refine AA (AC (AB rfl ?_))
 repeat refine nx rfl ?_
 have c0 := hf.opc
 refine AA (AP rfl (AH rfl (AD rfl (AF rfl (by assumption) ?_))))
 refine AQ (formOf_ok w f.op hG) rfl ?_
 rintro _ w1 ⟨rfl, k1⟩
 refine Cj rfl (BA rfl rfl (BA rfl rfl ?_))
 refine Cv (cs := Bj (BR f.op)) rfl rfl (by rfl) (formC_one _) (fun w2 n2 => ?_)
 refine AC (AB rfl ?_)
 repeat refine nx rfl ?_
 have k2 := k1.trans n2.keep
 have b2 := n2.blk
 have hf2 := hf.keep k2 (fun _ _ => by simp)
 obtain ⟨aa, cc, _, e0, e1, e2, e3, e4, _⟩ := hf2.all
 clear c0 n2 hf
 unfold shapeF
 generalize BR f.op = x at b2 ⊢
 cases hb : isOpB f.op with
 | false =>
  refine Ad (.read 0 (.read 1 (.read 2 (.read 3 (.read 4 (.read 5 (.read 6 (.read 7 (.read 8 (.read 9 (.read 10 (.read 11 (.read 12 (.read 13 (.read 14 (.read 15 (.read 16 (.read 17 (.read 18 (.read 19 (.read 20 (.read 21 .done)))))))))))))))))))))) Ax (by kernel_rfl) (fun wd kd ed => ⟨Ext wd, ?_, ?_⟩)
  ·exact Ext.refl _
  have q1 : ∀ V, Ext wd V → V.cell? ⟨w1.heap.size, 0 + 0, none⟩ = some (.int .i64 x.least) := fun V e => (Blk.keep b2 (kd.trans e) (by simp)).cell rfl
  have q2 : ∀ V, Ext wd V → V.cell? ⟨w1.heap.size, 0 + 1, none⟩ = some (.int .i64 x.most) := fun V e => (Blk.keep b2 (kd.trans e) (by simp)).cell rfl
  have q3 : ∀ V, Ext wd V → V.cell? ⟨w1.heap.size, 0 + 2, none⟩ = some (.int .i64 x.val) := fun V e => (Blk.keep b2 (kd.trans e) (by simp)).cell rfl
  have q4 : ∀ V, Ext wd V → V.cell? ⟨w1.heap.size, 0 + 3, none⟩ = some (.int .i64 x.bound) := fun V e => (Blk.keep b2 (kd.trans e) (by simp)).cell rfl
  have q5 : ∀ V, Ext wd V → V.cell? ⟨b, o + 2, none⟩ = some (.int .i64 f.val) := fun V e => (kd.trans e).cell e2 (by simp)
  have q6 : ∀ V, Ext wd V → V.cell? ⟨b, o + 3, none⟩ = some (.int .i64 f.bound) := fun V e => (kd.trans e).cell e3 (by simp)
  have q7 : ∀ V, Ext wd V → V.cell? ⟨b, o + 4, none⟩ = some (.slice aa f.args.length cc) := fun V e => (kd.trans e).cell e4 (by simp)
  refine D_R rfl rfl (fun W hW => AB rfl Z3) (D_R rfl rfl (fun W hW => Ak rfl Z3) (D_R rfl rfl (fun W hW => AB rfl Z3) (Am rfl rfl rfl rfl (Am rfl rfl rfl rfl (Am rfl rfl rfl rfl (Am rfl rfl rfl rfl (Am rfl rfl rfl rfl (Am rfl rfl rfl rfl (Am rfl rfl rfl rfl (Am rfl rfl rfl rfl (D_R rfl rfl (fun W hW => AK rfl (AB rfl Z3)) (D_R rfl rfl (fun W hW => AB rfl Z3) (Am rfl rfl rfl rfl (Am rfl rfl rfl rfl (Am rfl rfl rfl rfl (Am rfl rfl rfl rfl (Am rfl rfl rfl rfl (Am rfl rfl rfl rfl (Am rfl rfl rfl rfl (Am rfl rfl rfl rfl (D_R rfl rfl (fun W hW => AK rfl (AB rfl Z3)) (Ah ?_))))))))))))))))))))))
  repeat refine nx rfl ?_
  refine AA (AC (AB rfl ?_))
  repeat refine nx rfl ?_
  exact AI rfl ⟨rfl, k2.trans kd⟩
 | true =>
 by_cases h1 : x.least ≤ f.args.length ∧ (f.args.length : Int) ≤ x.most
 rotate_left
 ·have hs : shapeX x f.name f.val f.bound f.args.length = false := by
   cases hs : shapeX x f.name f.val f.bound f.args.length with
   | false => rfl
   | true => exact absurd ⟨by simp [shapeX] at hs; omega, by simp [shapeX] at hs; omega⟩ h1
  rw [hs]
  refine Ad (.read 0 (.read 1 (.read 2 (.read 3 (.read 4 (.read 5 (.read 6 (.read 7 (.read 8 (.read 9 (.read 10 (.read 11 (.read 12 (.read 13 (.read 14 (.read 15 (.read 16 (.read 17 (.read 18 (.read 19 (.read 20 (.read 21 .done)))))))))))))))))))))) Ax (by kernel_rfl) (fun wd kd ed => ⟨Ext wd, ?_, ?_⟩)
  ·exact Ext.refl _
  have q1 : ∀ V, Ext wd V → V.cell? ⟨w1.heap.size, 0 + 0, none⟩ = some (.int .i64 x.least) := fun V e => (Blk.keep b2 (kd.trans e) (by simp)).cell rfl
  have q2 : ∀ V, Ext wd V → V.cell? ⟨w1.heap.size, 0 + 1, none⟩ = some (.int .i64 x.most) := fun V e => (Blk.keep b2 (kd.trans e) (by simp)).cell rfl
  have q3 : ∀ V, Ext wd V → V.cell? ⟨w1.heap.size, 0 + 2, none⟩ = some (.int .i64 x.val) := fun V e => (Blk.keep b2 (kd.trans e) (by simp)).cell rfl
  have q4 : ∀ V, Ext wd V → V.cell? ⟨w1.heap.size, 0 + 3, none⟩ = some (.int .i64 x.bound) := fun V e => (Blk.keep b2 (kd.trans e) (by simp)).cell rfl
  have q5 : ∀ V, Ext wd V → V.cell? ⟨b, o + 2, none⟩ = some (.int .i64 f.val) := fun V e => (kd.trans e).cell e2 (by simp)
  have q6 : ∀ V, Ext wd V → V.cell? ⟨b, o + 3, none⟩ = some (.int .i64 f.bound) := fun V e => (kd.trans e).cell e3 (by simp)
  have q7 : ∀ V, Ext wd V → V.cell? ⟨b, o + 4, none⟩ = some (.slice aa f.args.length cc) := fun V e => (kd.trans e).cell e4 (by simp)
  (refine D_R rfl rfl (fun W hW => AB rfl Z3) (D_R rfl rfl (fun W hW => Ak rfl Z3) (D_R rfl rfl (fun W hW => AB rfl Z3) (D_R rfl rfl (fun W hW => AE rfl (AP rfl Z3)) (D_R rfl rfl (fun W hW => AE rfl (AH rfl Z3)) (D_R rfl rfl (fun W hW => AE rfl (AD rfl Z3)) (D_R rfl rfl (fun W hW => AE rfl (AF rfl (q7 W hW) Z3)) (D_R rfl rfl (fun W hW => AE rfl (AZ rfl Z3)) (D_R rfl rfl (fun W hW => AE rfl (AD rfl Z3)) (D_R rfl rfl (fun W hW => AE rfl (AF rfl (q1 W hW) Z3)) ?_))))))))) <;> (refine D_lss rfl rfl rfl rfl (fun hc => ?_) (fun hc => ?_) <;> try omega) <;> refine D_R rfl rfl (fun W hW => AJ rfl (AB rfl Z3)) (D_R rfl rfl (fun W hW => AB rfl Z3) ?_) <;> (first | refine Am rfl rfl rfl rfl ?_ | (apply D_R rfl rfl; (intro W hW; (refine AE rfl ?_; refine AP rfl ?_); exact AO ⟨rfl, rfl, rfl⟩))) <;> (first | refine Am rfl rfl rfl rfl ?_ | (apply D_R rfl rfl; (intro W hW; (refine AE rfl ?_; refine AH rfl ?_); exact AO ⟨rfl, rfl, rfl⟩))) <;> (first | refine Am rfl rfl rfl rfl ?_ | (apply D_R rfl rfl; (intro W hW; (refine AE rfl ?_; refine AD rfl ?_); exact AO ⟨rfl, rfl, rfl⟩))) <;> (first | refine Am rfl rfl rfl rfl ?_ | (apply D_R rfl rfl; (intro W hW; (refine AE rfl ?_; refine AF rfl (q7 W hW) ?_); exact AO ⟨rfl, rfl, rfl⟩))) <;> (first | refine Am rfl rfl rfl rfl ?_ | (apply D_R rfl rfl; (intro W hW; (refine AE rfl ?_; refine AZ rfl ?_); exact AO ⟨rfl, rfl, rfl⟩))) <;> (first | refine Am rfl rfl rfl rfl ?_ | (apply D_R rfl rfl; (intro W hW; (refine AE rfl ?_; refine AD rfl ?_); exact AO ⟨rfl, rfl, rfl⟩))) <;> (first | refine Am rfl rfl rfl rfl ?_ | (apply D_R rfl rfl; (intro W hW; (refine AE rfl ?_; refine AF rfl (q2 W hW) ?_); exact AO ⟨rfl, rfl, rfl⟩))) <;> (first | refine Am rfl rfl rfl rfl ?_ | refine D_gtrT rfl rfl rfl rfl (by omega) ?_) <;> (apply D_R rfl rfl; (intro W hW; ((first | refine AK rfl ?_ | refine AJ rfl ?_); refine AB rfl ?_); exact Z3)) <;> refine Ah ?_)
  all_goals
   repeat refine nx rfl ?_
   refine AA (AC (AB rfl ?_))
   repeat refine nx rfl ?_
   exact AI rfl ⟨rfl, k2.trans kd⟩
 refine Ad (.read 0 (.read 1 (.read 2 (.read 3 (.read 4 (.read 5 (.read 6 (.read 7 (.read 8 (.read 9 (.read 10 (.read 11 (.read 12 (.read 13 (.read 14 (.read 15 (.read 16 (.read 17 (.read 18 (.read 19 (.read 20 (.read 21 .done)))))))))))))))))))))) Ax (by kernel_rfl) (fun wd kd ed => ⟨Ext wd, ?_, ?_⟩)
 ·exact Ext.refl _
 have q1 : ∀ V, Ext wd V → V.cell? ⟨w1.heap.size, 0 + 0, none⟩ = some (.int .i64 x.least) := fun V e => (Blk.keep b2 (kd.trans e) (by simp)).cell rfl
 have q2 : ∀ V, Ext wd V → V.cell? ⟨w1.heap.size, 0 + 1, none⟩ = some (.int .i64 x.most) := fun V e => (Blk.keep b2 (kd.trans e) (by simp)).cell rfl
 have q3 : ∀ V, Ext wd V → V.cell? ⟨w1.heap.size, 0 + 2, none⟩ = some (.int .i64 x.val) := fun V e => (Blk.keep b2 (kd.trans e) (by simp)).cell rfl
 have q4 : ∀ V, Ext wd V → V.cell? ⟨w1.heap.size, 0 + 3, none⟩ = some (.int .i64 x.bound) := fun V e => (Blk.keep b2 (kd.trans e) (by simp)).cell rfl
 have q5 : ∀ V, Ext wd V → V.cell? ⟨b, o + 2, none⟩ = some (.int .i64 f.val) := fun V e => (kd.trans e).cell e2 (by simp)
 have q6 : ∀ V, Ext wd V → V.cell? ⟨b, o + 3, none⟩ = some (.int .i64 f.bound) := fun V e => (kd.trans e).cell e3 (by simp)
 have q7 : ∀ V, Ext wd V → V.cell? ⟨b, o + 4, none⟩ = some (.slice aa f.args.length cc) := fun V e => (kd.trans e).cell e4 (by simp)
 refine D_R rfl rfl (fun W hW => AB rfl Z3) (D_R rfl rfl (fun W hW => Ak rfl Z3) (D_R rfl rfl (fun W hW => AB rfl Z3) (D_R rfl rfl (fun W hW => AE rfl (AP rfl Z3)) (D_R rfl rfl (fun W hW => AE rfl (AH rfl Z3)) (D_R rfl rfl (fun W hW => AE rfl (AD rfl Z3)) (D_R rfl rfl (fun W hW => AE rfl (AF rfl (q7 W hW) Z3)) (D_R rfl rfl (fun W hW => AE rfl (AZ rfl Z3)) (D_R rfl rfl (fun W hW => AE rfl (AD rfl Z3)) (D_R rfl rfl (fun W hW => AE rfl (AF rfl (q1 W hW) Z3)) (D_lssF rfl rfl rfl rfl (by omega) (D_R rfl rfl (fun W hW => AJ rfl (AB rfl Z3)) (D_R rfl rfl (fun W hW => AB rfl Z3) (D_R rfl rfl (fun W hW => AE rfl (AP rfl Z3)) (D_R rfl rfl (fun W hW => AE rfl (AH rfl Z3)) (D_R rfl rfl (fun W hW => AE rfl (AD rfl Z3)) (D_R rfl rfl (fun W hW => AE rfl (AF rfl (q7 W hW) Z3)) (D_R rfl rfl (fun W hW => AE rfl (AZ rfl Z3)) (D_R rfl rfl (fun W hW => AE rfl (AD rfl Z3)) (D_R rfl rfl (fun W hW => AE rfl (AF rfl (q2 W hW) Z3)) (D_gtrF rfl rfl rfl rfl (by omega) (D_R rfl rfl (fun W hW => AJ rfl (AB rfl Z3)) (Ah ?_))))))))))))))))))))))
 clear q1 q2 q3 q4 q5 q6 q7
 repeat first | refine nx rfl ?_ | refine nf rfl ?_
 replace e0 := kd.cell e0 (by simp)
 replace e1 := kd.cell e1 (by simp)
 replace e2 := kd.cell e2 (by simp)
 replace e3 := kd.cell e3 (by simp)
 replace e4 := kd.cell e4 (by simp)
 replace b2 := Blk.keep b2 kd (by simp)
 replace k2 := k2.trans kd
 clear kd ed
 rename World => w3
 by_cases h2 : 0 ≤ f.val ∧ f.val ≤ x.val ∧ 0 ≤ f.bound ∧ f.bound ≤ x.bound
 rotate_left
 ·have hs : shapeX x f.name f.val f.bound f.args.length = false := by
   cases hs : shapeX x f.name f.val f.bound f.args.length with
   | false => rfl
   | true => exact absurd (by simp [shapeX] at hs; omega) h2
  rw [hs]
  refine Ad (.read 0 (.read 1 (.read 2 (.read 3 (.read 4 (.read 5 (.read 6 (.read 7 (.read 8 (.read 9 (.read 10 (.read 11 (.read 12 (.read 13 (.read 14 (.read 15 (.read 16 (.read 17 (.read 18 (.read 19 (.read 20 (.read 21 (.read 22 (.read 23 (.read 24 (.read 25 (.read 26 (.read 27 (.read 28 (.read 29 .done)))))))))))))))))))))))))))))) Ax (by kernel_rfl) (fun wd kd ed => ⟨Ext wd, ?_, ?_⟩)
  ·exact Ext.refl _
  have q1 : ∀ V, Ext wd V → V.cell? ⟨w1.heap.size, 0 + 0, none⟩ = some (.int .i64 x.least) := fun V e => (Blk.keep b2 (kd.trans e) (by simp)).cell rfl
  have q2 : ∀ V, Ext wd V → V.cell? ⟨w1.heap.size, 0 + 1, none⟩ = some (.int .i64 x.most) := fun V e => (Blk.keep b2 (kd.trans e) (by simp)).cell rfl
  have q3 : ∀ V, Ext wd V → V.cell? ⟨w1.heap.size, 0 + 2, none⟩ = some (.int .i64 x.val) := fun V e => (Blk.keep b2 (kd.trans e) (by simp)).cell rfl
  have q4 : ∀ V, Ext wd V → V.cell? ⟨w1.heap.size, 0 + 3, none⟩ = some (.int .i64 x.bound) := fun V e => (Blk.keep b2 (kd.trans e) (by simp)).cell rfl
  have q5 : ∀ V, Ext wd V → V.cell? ⟨b, o + 2, none⟩ = some (.int .i64 f.val) := fun V e => (kd.trans e).cell e2 (by simp)
  have q6 : ∀ V, Ext wd V → V.cell? ⟨b, o + 3, none⟩ = some (.int .i64 f.bound) := fun V e => (kd.trans e).cell e3 (by simp)
  have q7 : ∀ V, Ext wd V → V.cell? ⟨b, o + 4, none⟩ = some (.slice aa f.args.length cc) := fun V e => (kd.trans e).cell e4 (by simp)
  (refine D_R rfl rfl (fun W hW => AP rfl Z3) (D_R rfl rfl (fun W hW => AH rfl Z3) (D_R rfl rfl (fun W hW => AD rfl Z3) (D_R rfl rfl (fun W hW => AF rfl (q5 W hW) Z3) ?_))) <;> (refine D_lss rfl rfl rfl rfl (fun hc => ?_) (fun hc => ?_) <;> try omega) <;> refine D_R rfl rfl (fun W hW => AB rfl Z3) ?_ <;> (first | refine Am rfl rfl rfl rfl ?_ | (apply D_R rfl rfl; (intro W hW; (refine AE rfl ?_; refine AP rfl ?_); exact AO ⟨rfl, rfl, rfl⟩))) <;> (first | refine Am rfl rfl rfl rfl ?_ | (apply D_R rfl rfl; (intro W hW; (refine AE rfl ?_; refine AH rfl ?_); exact AO ⟨rfl, rfl, rfl⟩))) <;> (first | refine Am rfl rfl rfl rfl ?_ | (apply D_R rfl rfl; (intro W hW; (refine AE rfl ?_; refine AD rfl ?_); exact AO ⟨rfl, rfl, rfl⟩))) <;> (first | refine Am rfl rfl rfl rfl ?_ | (apply D_R rfl rfl; (intro W hW; (refine AE rfl ?_; refine AF rfl (q5 W hW) ?_); exact AO ⟨rfl, rfl, rfl⟩))) <;> (first | refine Am rfl rfl rfl rfl ?_ | (apply D_R rfl rfl; (intro W hW; (refine AE rfl ?_; refine AD rfl ?_); exact AO ⟨rfl, rfl, rfl⟩))) <;> (first | refine Am rfl rfl rfl rfl ?_ | (apply D_R rfl rfl; (intro W hW; (refine AE rfl ?_; refine AF rfl (q3 W hW) ?_); exact AO ⟨rfl, rfl, rfl⟩))) <;> (first | refine Am rfl rfl rfl rfl ?_ | (refine D_gtr rfl rfl rfl rfl (fun hc => ?_) (fun hc => ?_) <;> try omega)) <;> (apply D_R rfl rfl; (intro W hW; ((first | refine AK rfl ?_ | refine AJ rfl ?_); refine AB rfl ?_); exact Z3)) <;> refine D_R rfl rfl (fun W hW => AB rfl Z3) ?_ <;> (first | refine Am rfl rfl rfl rfl ?_ | (apply D_R rfl rfl; (intro W hW; (refine AE rfl ?_; refine AP rfl ?_); exact AO ⟨rfl, rfl, rfl⟩))) <;> (first | refine Am rfl rfl rfl rfl ?_ | (apply D_R rfl rfl; (intro W hW; (refine AE rfl ?_; refine AH rfl ?_); exact AO ⟨rfl, rfl, rfl⟩))) <;> (first | refine Am rfl rfl rfl rfl ?_ | (apply D_R rfl rfl; (intro W hW; (refine AE rfl ?_; refine AD rfl ?_); exact AO ⟨rfl, rfl, rfl⟩))) <;> (first | refine Am rfl rfl rfl rfl ?_ | (apply D_R rfl rfl; (intro W hW; (refine AE rfl ?_; refine AF rfl (q6 W hW) ?_); exact AO ⟨rfl, rfl, rfl⟩))) <;> (first | refine Am rfl rfl rfl rfl ?_ | (refine D_lss rfl rfl rfl rfl (fun hc => ?_) (fun hc => ?_) <;> try omega)) <;> (apply D_R rfl rfl; (intro W hW; ((first | refine AK rfl ?_ | refine AJ rfl ?_); refine AB rfl ?_); exact Z3)) <;> refine D_R rfl rfl (fun W hW => AB rfl Z3) ?_ <;> (first | refine Am rfl rfl rfl rfl ?_ | (apply D_R rfl rfl; (intro W hW; (refine AE rfl ?_; refine AP rfl ?_); exact AO ⟨rfl, rfl, rfl⟩))) <;> (first | refine Am rfl rfl rfl rfl ?_ | (apply D_R rfl rfl; (intro W hW; (refine AE rfl ?_; refine AH rfl ?_); exact AO ⟨rfl, rfl, rfl⟩))) <;> (first | refine Am rfl rfl rfl rfl ?_ | (apply D_R rfl rfl; (intro W hW; (refine AE rfl ?_; refine AD rfl ?_); exact AO ⟨rfl, rfl, rfl⟩))) <;> (first | refine Am rfl rfl rfl rfl ?_ | (apply D_R rfl rfl; (intro W hW; (refine AE rfl ?_; refine AF rfl (q6 W hW) ?_); exact AO ⟨rfl, rfl, rfl⟩))) <;> (first | refine Am rfl rfl rfl rfl ?_ | (apply D_R rfl rfl; (intro W hW; (refine AE rfl ?_; refine AD rfl ?_); exact AO ⟨rfl, rfl, rfl⟩))) <;> (first | refine Am rfl rfl rfl rfl ?_ | (apply D_R rfl rfl; (intro W hW; (refine AE rfl ?_; refine AF rfl (q4 W hW) ?_); exact AO ⟨rfl, rfl, rfl⟩))) <;> (first | refine Am rfl rfl rfl rfl ?_ | refine D_gtrT rfl rfl rfl rfl (by omega) ?_) <;> (apply D_R rfl rfl; (intro W hW; ((first | refine AK rfl ?_ | refine AJ rfl ?_); refine AB rfl ?_); exact Z3)) <;> refine Ah ?_)
  all_goals
   repeat refine nx rfl ?_
   refine AA (AC (AB rfl ?_))
   repeat refine nx rfl ?_
   exact AI rfl ⟨rfl, k2.trans kd⟩
 have hs : shapeX x f.name f.val f.bound f.args.length = if x.named then nameB f.name else decide (f.name = []) := by simp [shapeX, h1, h2]
 rw [hs]
 refine Ad (.read 0 (.read 1 (.read 2 (.read 3 (.read 4 (.read 5 (.read 6 (.read 7 (.read 8 (.read 9 (.read 10 (.read 11 (.read 12 (.read 13 (.read 14 (.read 15 (.read 16 (.read 17 (.read 18 (.read 19 (.read 20 (.read 21 (.read 22 (.read 23 (.read 24 (.read 25 (.read 26 (.read 27 (.read 28 (.read 29 .done)))))))))))))))))))))))))))))) Ax (by kernel_rfl) (fun wd kd ed => ⟨Ext wd, ?_, ?_⟩)
 ·exact Ext.refl _
 have q1 : ∀ V, Ext wd V → V.cell? ⟨w1.heap.size, 0 + 0, none⟩ = some (.int .i64 x.least) := fun V e => (Blk.keep b2 (kd.trans e) (by simp)).cell rfl
 have q2 : ∀ V, Ext wd V → V.cell? ⟨w1.heap.size, 0 + 1, none⟩ = some (.int .i64 x.most) := fun V e => (Blk.keep b2 (kd.trans e) (by simp)).cell rfl
 have q3 : ∀ V, Ext wd V → V.cell? ⟨w1.heap.size, 0 + 2, none⟩ = some (.int .i64 x.val) := fun V e => (Blk.keep b2 (kd.trans e) (by simp)).cell rfl
 have q4 : ∀ V, Ext wd V → V.cell? ⟨w1.heap.size, 0 + 3, none⟩ = some (.int .i64 x.bound) := fun V e => (Blk.keep b2 (kd.trans e) (by simp)).cell rfl
 have q5 : ∀ V, Ext wd V → V.cell? ⟨b, o + 2, none⟩ = some (.int .i64 f.val) := fun V e => (kd.trans e).cell e2 (by simp)
 have q6 : ∀ V, Ext wd V → V.cell? ⟨b, o + 3, none⟩ = some (.int .i64 f.bound) := fun V e => (kd.trans e).cell e3 (by simp)
 have q7 : ∀ V, Ext wd V → V.cell? ⟨b, o + 4, none⟩ = some (.slice aa f.args.length cc) := fun V e => (kd.trans e).cell e4 (by simp)
 refine D_R rfl rfl (fun W hW => AP rfl Z3) (D_R rfl rfl (fun W hW => AH rfl Z3) (D_R rfl rfl (fun W hW => AD rfl Z3) (D_R rfl rfl (fun W hW => AF rfl (q5 W hW) Z3) (D_lssF rfl rfl rfl rfl (by omega) (D_R rfl rfl (fun W hW => AB rfl Z3) (D_R rfl rfl (fun W hW => AE rfl (AP rfl Z3)) (D_R rfl rfl (fun W hW => AE rfl (AH rfl Z3)) (D_R rfl rfl (fun W hW => AE rfl (AD rfl Z3)) (D_R rfl rfl (fun W hW => AE rfl (AF rfl (q5 W hW) Z3)) (D_R rfl rfl (fun W hW => AE rfl (AD rfl Z3)) (D_R rfl rfl (fun W hW => AE rfl (AF rfl (q3 W hW) Z3)) (D_gtrF rfl rfl rfl rfl (by omega) (D_R rfl rfl (fun W hW => AJ rfl (AB rfl Z3)) (D_R rfl rfl (fun W hW => AB rfl Z3) (D_R rfl rfl (fun W hW => AE rfl (AP rfl Z3)) (D_R rfl rfl (fun W hW => AE rfl (AH rfl Z3)) (D_R rfl rfl (fun W hW => AE rfl (AD rfl Z3)) (D_R rfl rfl (fun W hW => AE rfl (AF rfl (q6 W hW) Z3)) (D_lssF rfl rfl rfl rfl (by omega) (D_R rfl rfl (fun W hW => AJ rfl (AB rfl Z3)) (D_R rfl rfl (fun W hW => AB rfl Z3) (D_R rfl rfl (fun W hW => AE rfl (AP rfl Z3)) (D_R rfl rfl (fun W hW => AE rfl (AH rfl Z3)) (D_R rfl rfl (fun W hW => AE rfl (AD rfl Z3)) (D_R rfl rfl (fun W hW => AE rfl (AF rfl (q6 W hW) Z3)) (D_R rfl rfl (fun W hW => AE rfl (AD rfl Z3)) (D_R rfl rfl (fun W hW => AE rfl (AF rfl (q4 W hW) Z3)) (D_gtrF rfl rfl rfl rfl (by omega) (D_R rfl rfl (fun W hW => AJ rfl (AB rfl Z3)) (Ah ?_))))))))))))))))))))))))))))))
 clear q1 q2 q3 q4 q5 q6 q7
 replace e1 := kd.cell e1 (by simp)
 replace b2 := Blk.keep b2 kd (by simp)
 replace k2 := k2.trans kd
 obtain ⟨xl, xm, xv, xb, xn, xp, xf, xo⟩ := x
 cases xn with
 | true =>
  repeat first | refine nx rfl ?_ | refine nf rfl ?_
  (refine AA (AD rfl (AF rfl (Blk.cell (by assumption) (by rfl)) ?_)))
  repeat refine nx rfl ?_
  refine AA (AP rfl (AH rfl (AD rfl (AF rfl (by assumption) ?_))))
  refine AQ (sigNameK_ok f.name wd (hK.keep k2 (by simp))) rfl ?_
  rintro _ _ ⟨rfl, rfl⟩
  refine AC (AB rfl ?_)
  repeat refine nx rfl ?_
  exact AI rfl ⟨rfl, k2⟩
 | false =>
  repeat first | refine nx rfl ?_ | refine nf rfl ?_
  (refine AA (AD rfl (AF rfl (Blk.cell (by assumption) (by rfl)) ?_)))
  repeat first | refine nx rfl ?_ | refine nf rfl ?_
  (refine AA (AP rfl (AH rfl (AD rfl (AF rfl (by assumption) ?_)))) <;> refine Bs rfl rfl (fun hc => ?_) (fun hc => ?_) <;> refine AC (AB rfl ?_))
  ·repeat refine nx rfl ?_
   exact AI rfl ⟨show Value.bool true = _ by simp [hc], k2⟩
  ·repeat refine nx rfl ?_
   exact AI rfl ⟨show Value.bool false = _ by simp [hc], k2⟩
end Go.Proofs.YtkhhjdjmhbdjfaaGreatDoor
namespace Go.Proofs.YtkhhjdjmhbdjfaaGreatDoor
set_option linter.unusedVariables false
variable {mk : Prop} [MK mk]
def cmpI (a b : Int) : Int := if a < b then -1 else if b < a then 1 else 0
def C1 : List UInt8 → List UInt8 → Int
 | [], [] => 0
 | [], _ :: _ => -1
 | _ :: _, [] => 1
 | a :: s, b :: t => if a.toNat < b.toNat then -1 else if b.toNat < a.toNat then 1 else C1 s t
def Bn (a b : Int) : Int := if a = 0 then b else a
mutual
def BV : Fml → Fml → Int
 | .mk o n v b l, .mk o' n' v' b' l' => Bn (cmpI o o') (Bn (C1 n n') (Bn (cmpI v v') (Bn (cmpI b b') (Bn (cmpI l.length l'.length) (cmpL l l')))))
def cmpL : List Fml → List Fml → Int
 | a :: l, c :: m => Bn (BV a c) (cmpL l m)
 | [], _ => 0
 | _ :: _, [] => 0
end
theorem thenI_zero {a b : Int} : Bn a b = 0 ↔ a = 0 ∧ b = 0 := by
 unfold Bn; split <;> simp_all
theorem cmpI_zero {a b : Int} : cmpI a b = 0 ↔ a = b := by unfold cmpI; split <;> (try split) <;> omega
theorem cmpI_flip (a b : Int) : cmpI b a = -cmpI a b := by unfold cmpI; split <;> (try split) <;> (try split) <;> omega
theorem cmpI_trans {a b c : Int} (h : cmpI a b < 0) (h' : cmpI b c < 0) : cmpI a c < 0 := by
 unfold cmpI at *; split at h <;> (try split at h) <;> split at h' <;> (try split at h') <;> split <;> (try split) <;> omega
theorem cmpS_zero : ∀ {s t : List UInt8}, C1 s t = 0 ↔ s = t
 | [], [] => by simp [C1]
 | [], _ :: _ => by simp [C1]
 | _ :: _, [] => by simp [C1]
 | a :: s, b :: t => by
  rw [C1]
  split
  ·rename_i h
   refine ⟨fun h => by omega, fun h2 => ?_⟩
   cases h2; omega
  split
  ·rename_i h
   refine ⟨fun h => by omega, fun h2 => ?_⟩
   cases h2; omega
  ·rename_i h1 h2
   have : a = b := UInt8.toNat_inj.1 (by omega)
   rw [cmpS_zero, this]; simp
theorem cmpS_flip : ∀ (s t : List UInt8), C1 t s = -C1 s t
 | [], [] => rfl
 | [], _ :: _ => rfl
 | _ :: _, [] => rfl
 | a :: s, b :: t => by
  rw [C1, C1, cmpS_flip s t]
  by_cases h : a.toNat < b.toNat
  ·rw [if_neg (by omega), if_pos h, if_pos h]; rfl
  ·by_cases h2 : b.toNat < a.toNat
   ·rw [if_pos h2, if_neg h, if_pos h2]
   ·rw [if_neg h2, if_neg h, if_neg h, if_neg h2]
theorem cmpS_trans : ∀ {s t u : List UInt8}, C1 s t < 0 → C1 t u < 0 → C1 s u < 0
 | [], [], u, h, _ => by simp [C1] at h
 | [], _ :: _, [], _, h => by simp [C1] at h
 | [], _ :: _, _ :: _, _, _ => by simp [C1]
 | _ :: _, [], u, h, _ => by simp [C1] at h
 | _ :: _, _ :: _, [], _, h => by simp [C1] at h
 | a :: s, b :: t, c :: u, h, h' => by
  rw [C1] at h h' ⊢
  by_cases h1 : a.toNat < b.toNat
  ·by_cases h2 : c.toNat < b.toNat
   ·rw [if_neg (by omega), if_pos h2] at h'; omega
   ·rw [if_pos (by omega)]; omega
  ·rw [if_neg h1] at h
   by_cases h2 : b.toNat < a.toNat
   ·rw [if_pos h2] at h; omega
   ·rw [if_neg h2] at h
    by_cases h3 : b.toNat < c.toNat
    ·rw [if_pos (by omega)]; omega
    ·rw [if_neg h3] at h'
     by_cases h4 : c.toNat < b.toNat
     ·rw [if_pos h4] at h'; omega
     ·rw [if_neg h4] at h'
      rw [if_neg (by omega), if_neg (by omega)]
      exact cmpS_trans h h'
theorem then_flip {a b a' b' : Int} (h : a' = -a) (h' : a = 0 → b' = -b) : Bn a' b' = -Bn a b := by
 unfold Bn
 by_cases h0 : a = 0
 ·rw [if_pos (by omega), if_pos h0]; exact h' h0
 ·rw [if_neg (by omega), if_neg h0]; exact h
theorem then_lt {a b : Int} : Bn a b < 0 ↔ a < 0 ∨ a = 0 ∧ b < 0 := by
 unfold Bn; split <;> omega
theorem then_trans {a1 a2 a3 b1 b2 b3 : Int} (h12 : a1 < 0 → a2 < 0 → a3 < 0) (h10 : a1 = 0 → a3 = a2) (h20 : a2 = 0 → a3 = a1) (hb : a1 = 0 → a2 = 0 → b1 < 0 → b2 < 0 → b3 < 0) (h1 : Bn a1 b1 < 0) (h2 : Bn a2 b2 < 0) : Bn a3 b3 < 0 := by
 rw [then_lt] at *
 rcases h1 with h1 | ⟨h1, h1'⟩ <;> rcases h2 with h2 | ⟨h2, h2'⟩
 ·exact .inl (h12 h1 h2)
 ·exact .inl (by have := h20 h2; omega)
 ·exact .inl (by have := h10 h1; omega)
 ·refine .inr ⟨by have := h10 h1; omega, hb h1 h2 h1' h2'⟩
mutual
theorem Bt : ∀ (f g : Fml), BV f g = 0 ↔ f = g
 | .mk o n v b l, .mk o' n' v' b' l' => by
  rw [BV]
  simp only [thenI_zero, cmpI_zero, cmpS_zero, Fml.mk.injEq]
  constructor
  ·rintro ⟨rfl, rfl, rfl, rfl, h, h'⟩
   exact ⟨rfl, rfl, rfl, rfl, (cmpL_zero l l' (by omega)).1 h'⟩
  ·rintro ⟨rfl, rfl, rfl, rfl, rfl⟩
   exact ⟨rfl, rfl, rfl, rfl, rfl, (cmpL_zero l l rfl).2 rfl⟩
theorem cmpL_zero : ∀ (l m : List Fml), l.length = m.length → (cmpL l m = 0 ↔ l = m)
 | a :: l, c :: m, h => by
  rw [cmpL, thenI_zero, Bt a c, cmpL_zero l m (by simpa using h)]; simp
 | [], [], _ => by simp [cmpL]
 | [], _ :: _, h => by simp at h
 | _ :: _, [], h => by simp at h
end
mutual
theorem cmpF_flip : ∀ (f g : Fml), BV g f = -BV f g
 | .mk o n v b l, .mk o' n' v' b' l' => by
  rw [BV, BV]
  refine then_flip (cmpI_flip _ _) fun _ => then_flip (cmpS_flip _ _) fun _ => then_flip (cmpI_flip _ _) fun _ => then_flip (cmpI_flip _ _) fun _ => then_flip (cmpI_flip _ _) fun _ => cmpL_flip l l'
theorem cmpL_flip : ∀ (l m : List Fml), cmpL m l = -cmpL l m
 | a :: l, c :: m => by rw [cmpL, cmpL]; exact then_flip (cmpF_flip a c) fun _ => cmpL_flip l m
 | [], [] => rfl
 | [], _ :: _ => rfl
 | _ :: _, [] => rfl
end
theorem cmpI_left {a b c : Int} (h : cmpI a b = 0) : cmpI a c = cmpI b c := by rw [cmpI_zero.1 h]
theorem cmpI_right {a b c : Int} (h : cmpI b c = 0) : cmpI a c = cmpI a b := by rw [cmpI_zero.1 h]
theorem cmpS_left {a b c : List UInt8} (h : C1 a b = 0) : C1 a c = C1 b c := by rw [cmpS_zero.1 h]
theorem cmpS_right {a b c : List UInt8} (h : C1 b c = 0) : C1 a c = C1 a b := by rw [cmpS_zero.1 h]
mutual
theorem CY : ∀ (f g k : Fml), BV f g < 0 → BV g k < 0 → BV f k < 0
 | .mk o n v b l, .mk o' n' v' b' l', .mk o'' n'' v'' b'' l'' => by
  rw [BV, BV, BV]
  refine then_trans cmpI_trans cmpI_left cmpI_right fun _ _ => then_trans cmpS_trans cmpS_left cmpS_right fun _ _ => then_trans cmpI_trans cmpI_left cmpI_right fun _ _ => then_trans cmpI_trans cmpI_left cmpI_right fun _ _ =>
   then_trans cmpI_trans cmpI_left cmpI_right fun h1 h2 => cmpL_trans l l' l'' (by have := cmpI_zero.1 h1; omega) (by have := cmpI_zero.1 h2; omega)
theorem cmpL_trans : ∀ (l m k : List Fml), l.length = m.length → m.length = k.length → cmpL l m < 0 → cmpL m k < 0 → cmpL l k < 0
 | a :: l, c :: m, d :: k, h, h' => by
  rw [cmpL, cmpL, cmpL]
  exact then_trans (CY a c d) (fun e => by rw [(Bt a c).1 e]) (fun e => by rw [(Bt c d).1 e]) fun _ _ => cmpL_trans l m k (by simpa using h) (by simpa using h')
 | [], [], _, _, _ => fun h => by simp [cmpL] at h
 | [], _ :: _, _, h, _ => by simp at h
 | _ :: _, [], _, h, _ => by simp at h
 | _ :: _, _ :: _, [], _, h => by simp at h
end
def insF (a : Fml) : List Fml → List Fml
 | [] => [a]
 | c :: l => if BV a c < 0 then a :: c :: l else if BV a c = 0 then c :: l else c :: insF a l
def Cp (l : List Fml) : List Fml := l.foldr insF []
def Inc : List Fml → Prop
 | [] => True
 | a :: l => (∀ c ∈ l, BV a c < 0) ∧ Inc l
theorem mem_insF {a x : Fml} : ∀ {l : List Fml}, x ∈ insF a l ↔ x = a ∨ x ∈ l
 | [] => by simp [insF]
 | c :: l => by
  rw [insF]
  split
  ·simp
  split
  ·rename_i h
   have := (Bt a c).1 h
   subst this
   simp
  ·simp only [List.mem_cons, mem_insF (l := l)]
   constructor
   ·rintro (h | h | h)
    ·exact .inr (.inl h)
    ·exact .inl h
    ·exact .inr (.inr h)
   ·rintro (h | h | h)
    ·exact .inr (.inl h)
    ·exact .inl h
    ·exact .inr (.inr h)
theorem mem_dist {x : Fml} : ∀ {l : List Fml}, x ∈ Cp l ↔ x ∈ l
 | [] => Iff.rfl
 | c :: l => by
  show x ∈ insF c (Cp l) ↔ _
  rw [mem_insF, mem_dist (l := l)]; simp
theorem inc_insF {a : Fml} : ∀ {l : List Fml}, Inc l → Inc (insF a l)
 | [], _ => by simp [insF, Inc]
 | c :: l, h => by
  rw [insF]
  split
  ·rename_i hlt
   refine ⟨fun d hd => ?_, h⟩
   rcases List.mem_cons.1 hd with rfl | hd
   ·exact hlt
   ·exact CY _ _ _ hlt (h.1 d hd)
  split
  ·exact h
  ·rename_i h1 h2
   refine ⟨fun d hd => ?_, inc_insF h.2⟩
   rcases mem_insF.1 hd with rfl | hd
   ·have := cmpF_flip d c; omega
   ·exact h.1 d hd
theorem inc_dist : ∀ l : List Fml, Inc (Cp l)
 | [] => trivial
 | c :: l => inc_insF (inc_dist l)
theorem cmp_irr (a : Fml) : ¬ BV a a < 0 := by rw [(Bt a a).2 rfl]; omega
theorem inc_ext : ∀ {l m : List Fml}, Inc l → Inc m → (∀ x, x ∈ l ↔ x ∈ m) → l = m
 | [], [], _, _, _ => rfl
 | [], c :: m, _, _, h => by have := (h c).2 (by simp); cases this
 | a :: l, [], _, _, h => by have := (h a).1 (by simp); cases this
 | a :: l, c :: m, hl, hm, h => by
  have e : a = c := by
   have h1 := (h a).1 (by simp)
   have h2 := (h c).2 (by simp)
   rcases List.mem_cons.1 h1 with rfl | h1
   ·rfl
   ·rcases List.mem_cons.1 h2 with rfl | h2
    ·rfl
    ·exact absurd (CY _ _ _ (hl.1 c h2) (hm.1 a h1)) (cmp_irr a)
  subst e
  have : l = m := inc_ext hl.2 hm.2 fun x => by
   constructor
   ·intro hx
    rcases List.mem_cons.1 ((h x).1 (List.mem_cons_of_mem _ hx)) with rfl | hx'
    ·exact absurd (hl.1 x hx) (cmp_irr x)
    ·exact hx'
   ·intro hx
    rcases List.mem_cons.1 ((h x).2 (List.mem_cons_of_mem _ hx)) with rfl | hx'
    ·exact absurd (hm.1 x hx) (cmp_irr x)
    ·exact hx'
  rw [this]
theorem dist_id {l : List Fml} (h : Inc l) : Cp l = l := inc_ext (inc_dist l) h fun _ => mem_dist
theorem dist_ext {l m : List Fml} (h : ∀ x, x ∈ l ↔ x ∈ m) : Cp l = Cp m := inc_ext (inc_dist l) (inc_dist m) fun x => by rw [mem_dist, mem_dist, h]
def B2 (op : Int) : Int := if op = 6 then 2 else 1
def Bf (op : Int) : Int := if op = 6 then 1 else 2
def gath (op : Int) : List Fml → Option (List Fml)
 | [] => some []
 | f :: l => if f.op = op then (gath op l).map (f.args ++ ·) else if f.op = Bf op then none else if f.op = B2 op then gath op l else (gath op l).map (f :: ·)
def oppB (l : List Fml) : Bool := l.any fun x => decide (x.op = 4) && l.any fun y => decide (BV y (x.args.getD 0 Af) = 0)
def joinD (op : Int) (d : List Fml) : Fml := if oppB d then ⟨Bf op, [], 0, 0, []⟩ else match d with
 | [] => ⟨B2 op, [], 0, 0, []⟩
 | [a] => a
 | d => opF op d
def B1 (op : Int) (l : List Fml) : Fml := match gath op l with
 | none => ⟨Bf op, [], 0, 0, []⟩
 | some g => joinD op (Cp g)
def Bo (f : Fml) : Bool := decide (f.op = 1) || decide (f.op = 2)
def BP (op : Int) (nm : List UInt8) (v : Int) (ps : List Fml) : Fml :=
 if op = 5 ∨ op = 6 then B1 op ps
 else if op = 8 ∧ Bo (ps.getD 0 Af) = true then ps.getD 0 Af
 else if op = 9 ∧ (Bo (ps.getD 1 Af) = true ∨ (ps.getD 0 Af).op = 2) then ps.getD 1 Af
 else if op = 10 ∧ (Bo (ps.getD 1 Af) = true ∨ (ps.getD 0 Af).op = 1) then ps.getD 1 Af
 else ⟨op, nm, v, 0, ps⟩
mutual
def Al : Fml → Fml
 | .mk op nm v _ args => BP op nm v (canonL args)
def canonL : List Fml → List Fml
 | [] => []
 | a :: l => Al a :: canonL l
end
theorem canonL_eq : ∀ l, canonL l = l.map Al
 | [] => rfl
 | a :: l => by rw [canonL, canonL_eq l]; rfl
end Go.Proofs.YtkhhjdjmhbdjfaaGreatDoor
namespace Go.Proofs.YtkhhjdjmhbdjfaaGreatDoor
set_option linter.unusedVariables false
variable {mk : Prop} [MK mk]
def Fl (op : Int) (c : Fml) : List Fml := if c.op = op then c.args else if c.op = B2 op then [] else [c]
def CE (op : Int) (l : List Fml) : Bool := l.any fun c => decide (c.op = Bf op)
def conO (op : Int) : Fml := ⟨op, [], 0, 0, []⟩
theorem CZ (op : Int) (d : List Fml) : joinD op d = if oppB d then conO (Bf op) else match d with | [] => conO (B2 op) | [a] => a | d => opF op d := rfl
theorem uz_ne {op : Int} (h : op = 5 ∨ op = 6) : Bf op ≠ op ∧ B2 op ≠ op ∧ Bf op ≠ B2 op ∧ (Bf op = 1 ∨ Bf op = 2) ∧ (B2 op = 1 ∨ B2 op = 2) := by
 unfold Bf B2
 rcases h with rfl | rfl <;> decide
theorem gath_eq {op : Int} (h : op = 5 ∨ op = 6) : ∀ l : List Fml, gath op l = if CE op l then none else some (l.flatMap (Fl op))
 | [] => rfl
 | f :: l => by
  obtain ⟨h1, h2, h3, _, _⟩ := uz_ne h
  have ih := gath_eq h l
  rw [gath, ih]
  have ez : CE op (f :: l) = (decide (f.op = Bf op) || CE op l) := rfl
  rw [ez, List.flatMap_cons]
  by_cases ho : f.op = op
  ·rw [if_pos ho, decide_eq_false (by rw [ho]; exact fun e => h1 e.symm), Bool.false_or]
   have : Fl op f = f.args := by unfold Fl; rw [if_pos ho]
   rw [this]
   cases CE op l <;> rfl
  ·rw [if_neg ho]
   by_cases hz : f.op = Bf op
   ·rw [if_pos hz, decide_eq_true hz]; rfl
   ·rw [if_neg hz, decide_eq_false hz, Bool.false_or]
    by_cases hu : f.op = B2 op
    ·rw [if_pos hu]
     have : Fl op f = [] := by unfold Fl; rw [if_neg ho, if_pos hu]
     rw [this]; rfl
    ·rw [if_neg hu]
     have : Fl op f = [f] := by unfold Fl; rw [if_neg ho, if_neg hu]
     rw [this]
     cases CE op l <;> rfl
theorem B4 {op : Int} (h : op = 5 ∨ op = 6) (l : List Fml) : B1 op l = if CE op l then conO (Bf op) else joinD op (Cp (l.flatMap (Fl op))) := by
 unfold B1
 rw [gath_eq h]
 cases CE op l <;> rfl
theorem opp_iff {l : List Fml} : oppB l = true ↔ ∃ x ∈ l, x.op = 4 ∧ x.args.getD 0 Af ∈ l := by
 unfold oppB
 rw [List.any_eq_true]
 constructor
 ·rintro ⟨x, hx, h⟩
  rw [Bool.and_eq_true, List.any_eq_true] at h
  obtain ⟨h1, y, hy, h2⟩ := h
  have e := (Bt _ _).1 (of_decide_eq_true h2)
  exact ⟨x, hx, of_decide_eq_true h1, e ▸ hy⟩
 ·rintro ⟨x, hx, h1, h2⟩
  refine ⟨x, hx, ?_⟩
  rw [Bool.and_eq_true, List.any_eq_true]
  exact ⟨decide_eq_true h1, _, h2, decide_eq_true ((Bt _ _).2 rfl)⟩
theorem opp_ext {l m : List Fml} (h : ∀ x, x ∈ l ↔ x ∈ m) : oppB l = oppB m := by
 rw [Bool.eq_iff_iff, opp_iff, opp_iff]
 constructor
 ·rintro ⟨x, h1, h2, h3⟩; exact ⟨x, (h x).1 h1, h2, (h _).1 h3⟩
 ·rintro ⟨x, h1, h2, h3⟩; exact ⟨x, (h x).2 h1, h2, (h _).2 h3⟩
theorem opp_dist (l : List Fml) : oppB (Cp l) = oppB l := opp_ext fun _ => mem_dist
theorem joinM_ext {op : Int} (h : op = 5 ∨ op = 6) {l m : List Fml} (hz : CE op l = CE op m) (he : ∀ x, x ∈ l.flatMap (Fl op) ↔ x ∈ m.flatMap (Fl op)) : B1 op l = B1 op m := by
 rw [B4 h, B4 h, hz, dist_ext he]
def shO (op : Int) (nm : List UInt8) (v : Int) (args : List Fml) : Prop :=
 C2 op = true ∧ A8 op args.length = true ∧ (op ≠ 3 → nm = []) ∧ (op ≠ 3 → op ≠ 15 → op ≠ 16 → op ≠ 17 → v = 0) ∧ (op = 4 → ∀ a ∈ args, a.op = 3)
mutual
def Sh : Fml → Prop
 | .mk op nm v b args => b = 0 ∧ shO op nm v args ∧ ShL args
def ShL : List Fml → Prop
 | [] => True
 | a :: l => Sh a ∧ ShL l
end
theorem shL_iff : ∀ {l : List Fml}, ShL l ↔ ∀ a ∈ l, Sh a
 | [] => by simp [ShL]
 | a :: l => by rw [ShL, shL_iff]; simp
theorem sh_iff {op v b : Int} {nm : List UInt8} {args : List Fml} : Sh (.mk op nm v b args) ↔ b = 0 ∧ shO op nm v args ∧ ∀ a ∈ args, Sh a := by rw [Sh, shL_iff]
theorem sh_eq {f : Fml} (h : Sh f) : f.bound = 0 ∧ shO f.op f.name f.val f.args ∧ ∀ a ∈ f.args, Sh a := by
 obtain ⟨op, nm, v, b, args⟩ := f
 exact sh_iff.1 h
theorem sh_bare : ∀ {f : Fml} {i : Bool}, A9 i f = true → Sh f
 | .mk op nm v b args, i, h => by
  simp only [A9, Bool.and_eq_true] at h
  obtain ⟨⟨⟨⟨h1, h2⟩, h3⟩, h4⟩, h5⟩ := h
  have ha := Bk h2
  simp only [BX, Bool.and_eq_true, decide_eq_true_eq] at h2
  obtain ⟨⟨⟨⟨⟨⟨⟨q1, q2⟩, q3⟩, q4⟩, q5⟩, q6⟩, q7⟩, q8⟩ := h2
  have hlc := CP h1
  refine sh_iff.2 ⟨?_, ⟨h1, ha, fun hn => ?_, fun e1 e2 e3 e4 => ?_, fun he a hm => ?_⟩, fun a hm => sh_bare (bareL_mem h5 hm)⟩
  ·rw [if_neg (by omega)] at q7; omega
  ·rw [if_neg hn] at q8
   simpa using q8
  ·rw [if_neg e1, if_neg (by omega)] at q5; omega
  ·rw [if_pos he] at h4
   subst he
   have hl1 : args.length = 1 := by simpa [A8] using ha
   obtain ⟨c, rfl⟩ := Ck hl1
   have : a = c := by simpa using hm
   subst this
   simpa using h4
def cfO (op : Int) (args : List Fml) : Prop :=
 (op = 5 ∨ op = 6 → Inc args ∧ oppB args = false ∧ ∀ a ∈ args, a.op ≠ op ∧ a.op ≠ Bf op ∧ a.op ≠ B2 op) ∧
 (op = 8 → Bo (args.getD 0 Af) = false) ∧ (op = 9 → Bo (args.getD 1 Af) = false ∧ (args.getD 0 Af).op ≠ 2) ∧ (op = 10 → Bo (args.getD 1 Af) = false ∧ (args.getD 0 Af).op ≠ 1)
mutual
def CF : Fml → Prop
 | .mk op nm v b args => b = 0 ∧ shO op nm v args ∧ cfO op args ∧ CFL args
def CFL : List Fml → Prop
 | [] => True
 | a :: l => CF a ∧ CFL l
end
theorem cfL_iff : ∀ {l : List Fml}, CFL l ↔ ∀ a ∈ l, CF a
 | [] => by simp [CFL]
 | a :: l => by rw [CFL, cfL_iff]; simp
theorem cf_iff {op v b : Int} {nm : List UInt8} {args : List Fml} : CF (.mk op nm v b args) ↔ b = 0 ∧ shO op nm v args ∧ cfO op args ∧ ∀ a ∈ args, CF a := by rw [CF, cfL_iff]
theorem cf_eq {f : Fml} (h : CF f) : f.bound = 0 ∧ shO f.op f.name f.val f.args ∧ cfO f.op f.args ∧ ∀ a ∈ f.args, CF a := by
 obtain ⟨op, nm, v, b, args⟩ := f
 exact cf_iff.1 h
theorem Cx : ∀ {f : Fml}, CF f → Sh f
 | .mk op nm v b args, h => by
  obtain ⟨h1, h2, _, h4⟩ := cf_iff.1 h
  exact sh_iff.2 ⟨h1, h2, fun a ha => Cx (h4 a ha)⟩
theorem sh_con {f : Fml} (h : Sh f) (ho : f.op = 1 ∨ f.op = 2) : f = conO f.op := by
 obtain ⟨op, nm, v, b, args⟩ := f
 obtain ⟨h1, ⟨_, h3, h4, h5, _⟩, _⟩ := sh_iff.1 h
 have ho' : op = 1 ∨ op = 2 := ho
 have e1 : args.length = 0 := by
  have := h3
  unfold A8 at this
  rw [if_pos (by omega)] at this
  exact of_decide_eq_true this
 rw [h1, h4 (by omega), h5 (by omega) (by omega) (by omega) (by omega), List.eq_nil_of_length_eq_zero e1]
 rfl
theorem cf_con {op : Int} (h : op = 1 ∨ op = 2) : CF (conO op) := by
 refine cf_iff.2 ⟨rfl, ⟨?_, ?_, fun _ => rfl, fun _ _ _ _ => rfl, fun h4 => by omega⟩, ⟨fun h5 => by omega, fun h5 => by omega, fun h5 => by omega, fun h5 => by omega⟩, fun a ha => by cases ha⟩
 ·rcases h with rfl | rfl <;> rfl
 ·rcases h with rfl | rfl <;> rfl
theorem fl_cf {op : Int} (h : op = 5 ∨ op = 6) {c : Fml} (hc : CF c) (hz : c.op ≠ Bf op) : ∀ a ∈ Fl op c, CF a ∧ a.op ≠ op ∧ a.op ≠ Bf op ∧ a.op ≠ B2 op := by
 obtain ⟨_, _, h3, h4⟩ := cf_eq hc
 intro a ha
 unfold Fl at ha
 by_cases ho : c.op = op
 ·rw [if_pos ho] at ha
  have := (h3.1 (by rw [ho]; exact h)).2.2 a ha
  rw [ho] at this
  exact ⟨h4 a ha, this⟩
 ·rw [if_neg ho] at ha
  by_cases hu : c.op = B2 op
  ·rw [if_pos hu] at ha; cases ha
  ·rw [if_neg hu] at ha
   have : a = c := by simpa using ha
   subst this
   exact ⟨hc, ho, hz, hu⟩
theorem fl_self {op : Int} {a : Fml} (h1 : a.op ≠ op) (h2 : a.op ≠ B2 op) : Fl op a = [a] := by unfold Fl; rw [if_neg h1, if_neg h2]
theorem zAny_false {op : Int} {l : List Fml} : CE op l = false ↔ ∀ c ∈ l, c.op ≠ Bf op := by
 unfold CE
 rw [List.any_eq_false]
 simp
theorem zAny_true {op : Int} {l : List Fml} : CE op l = true ↔ ∃ c ∈ l, c.op = Bf op := by
 unfold CE
 rw [List.any_eq_true]
 simp
theorem flat_self {op : Int} : ∀ {d : List Fml}, (∀ a ∈ d, a.op ≠ op ∧ a.op ≠ B2 op) → d.flatMap (Fl op) = d
 | [], _ => rfl
 | a :: d, h => by
  rw [List.flatMap_cons, fl_self (h a (by simp)).1 (h a (by simp)).2, flat_self fun c hc => h c (by simp [hc])]; rfl
theorem joinD_cf {op : Int} (h : op = 5 ∨ op = 6) {d : List Fml} (hi : Inc d) (hd : ∀ a ∈ d, CF a ∧ a.op ≠ op ∧ a.op ≠ Bf op ∧ a.op ≠ B2 op) : CF (joinD op d) := by
 obtain ⟨_, _, _, hz, hu⟩ := uz_ne h
 rw [CZ]
 cases ho : oppB d with
 | true => exact cf_con hz
 | false =>
  match d, hi, hd, ho with
  | [], _, _, _ => exact cf_con hu
  | [a], _, hd, _ => exact (hd a (by simp)).1
  | a :: c :: d, hi, hd, ho =>
   refine cf_iff.2 ⟨rfl, ⟨?_, ?_, fun _ => rfl, fun _ _ _ _ => rfl, fun h4 => by omega⟩, ⟨fun _ => ⟨hi, ho, fun x hx => (hd x hx).2⟩, fun h8 => by omega, fun h8 => by omega, fun h8 => by omega⟩, fun x hx => (hd x hx).1⟩
   ·rcases h with rfl | rfl <;> rfl
   ·unfold A8
    rw [if_neg (by omega), if_pos h]
    exact decide_eq_true (by simp)
theorem dist_parts {op : Int} (h : op = 5 ∨ op = 6) {l : List Fml} (hl : ∀ c ∈ l, CF c) (hz : CE op l = false) : ∀ a ∈ Cp (l.flatMap (Fl op)), CF a ∧ a.op ≠ op ∧ a.op ≠ Bf op ∧ a.op ≠ B2 op := by
 intro a ha
 rw [mem_dist, List.mem_flatMap] at ha
 obtain ⟨c, hc, ha⟩ := ha
 exact fl_cf h (hl c hc) (zAny_false.1 hz c hc) a ha
theorem joinM_cf {op : Int} (h : op = 5 ∨ op = 6) {l : List Fml} (hl : ∀ c ∈ l, CF c) : CF (B1 op l) := by
 rw [B4 h]
 cases hz : CE op l with
 | true => exact cf_con (uz_ne h).2.2.2.1
 | false => exact joinD_cf h (inc_dist _) (dist_parts h hl hz)
theorem CH (op v b : Int) (nm : List UInt8) (args : List Fml) : Al (.mk op nm v b args) = BP op nm v (args.map Al) := by rw [Al, canonL_eq]
theorem canonOp_cf {op v : Int} {nm : List UInt8} {args : List Fml} (h : shO op nm v args) (ha : ∀ a ∈ args, CF a) : CF (BP op nm v args) := by
 obtain ⟨h1, h2, h3, h4, h5⟩ := h
 have hlc := CP h1
 unfold BP
 by_cases h56 : op = 5 ∨ op = 6
 ·rw [if_pos h56]; exact joinM_cf h56 ha
 rw [if_neg h56]
 have g0 : ∀ i, i < args.length → CF (args.getD i Af) := fun i hi => by
  rw [List.getD_eq_getElem?_getD, List.getElem?_eq_getElem hi]
  exact ha _ (List.getElem_mem hi)
 have a8 : op = 8 → args.length = 1 := fun e => by subst e; simpa [A8] using h2
 have a9 : op = 9 ∨ op = 10 → args.length = 2 := fun e => by
  unfold A8 at h2
  rw [if_neg (by omega), if_neg h56, if_pos (by omega)] at h2
  exact of_decide_eq_true h2
 by_cases c8 : op = 8 ∧ Bo (args.getD 0 Af) = true
 ·rw [if_pos c8]; exact g0 0 (by have := a8 c8.1; omega)
 rw [if_neg c8]
 by_cases c9 : op = 9 ∧ (Bo (args.getD 1 Af) = true ∨ (args.getD 0 Af).op = 2)
 ·rw [if_pos c9]; exact g0 1 (by have := a9 (.inl c9.1); omega)
 rw [if_neg c9]
 by_cases c10 : op = 10 ∧ (Bo (args.getD 1 Af) = true ∨ (args.getD 0 Af).op = 1)
 ·rw [if_pos c10]; exact g0 1 (by have := a9 (.inr c10.1); omega)
 rw [if_neg c10]
 refine cf_iff.2 ⟨rfl, ⟨h1, h2, h3, h4, h5⟩, ⟨fun e => absurd e h56, fun e => ?_, fun e => ?_, fun e => ?_⟩, ha⟩
 ·cases hb : Bo (args.getD 0 Af) with
  | false => rfl
  | true => exact absurd ⟨e, hb⟩ c8
 ·refine ⟨?_, fun h' => c9 ⟨e, .inr h'⟩⟩
  cases hb : Bo (args.getD 1 Af) with
  | false => rfl
  | true => exact absurd ⟨e, .inl hb⟩ c9
 ·refine ⟨?_, fun h' => c10 ⟨e, .inr h'⟩⟩
  cases hb : Bo (args.getD 1 Af) with
  | false => rfl
  | true => exact absurd ⟨e, .inl hb⟩ c10
theorem canon_op3 {f : Fml} (h : f.op = 3) : (Al f).op = 3 := by
 obtain ⟨op, nm, v, b, args⟩ := f
 obtain rfl : op = 3 := h
 rw [CH]
 rfl
theorem shO_map {op v : Int} {nm : List UInt8} {args : List Fml} (h : shO op nm v args) (g : Fml → Fml) (hg : ∀ a, a.op = 3 → (g a).op = 3) : shO op nm v (args.map g) := by
 obtain ⟨h1, h2, h3, h4, h5⟩ := h
 refine ⟨h1, by rw [List.length_map]; exact h2, h3, h4, fun e a ha => ?_⟩
 obtain ⟨c, hc, rfl⟩ := List.mem_map.1 ha
 exact hg c (h5 e c hc)
theorem canon_cf : ∀ {f : Fml}, Sh f → CF (Al f)
 | .mk op nm v b args, h => by
  obtain ⟨_, h2, h3⟩ := sh_iff.1 h
  rw [CH]
  refine canonOp_cf (shO_map h2 Al fun a => canon_op3) fun a ha => ?_
  obtain ⟨c, hc, rfl⟩ := List.mem_map.1 ha
  exact canon_cf (h3 c hc)
theorem canon_fix : ∀ {f : Fml}, CF f → Al f = f
 | .mk op nm v b args, h => by
  obtain ⟨h1, h2, h3, h4⟩ := cf_iff.1 h
  have e : args.map Al = args := by
   have : ∀ l : List Fml, (∀ a ∈ l, Al a = a) → l.map Al = l := by
    intro l
    induction l with
    | nil => intro _; rfl
    | cons a l ih => intro hl; rw [List.map_cons, hl a (by simp), ih fun c hc => hl c (by simp [hc])]
   exact this args fun a ha => canon_fix (h4 a ha)
  rw [CH, e]
  unfold BP
  by_cases h56 : op = 5 ∨ op = 6
  ·rw [if_pos h56, B4 h56]
   obtain ⟨q1, q2, q3⟩ := h3.1 h56
   have hz : CE op args = false := zAny_false.2 fun c hc => (q3 c hc).2.1
   rw [hz, flat_self fun a ha => ⟨(q3 a ha).1, (q3 a ha).2.2⟩, dist_id q1, CZ, q2]
   have hl : 2 ≤ args.length := by
    have := h2.2.1
    unfold A8 at this
    rw [if_neg (by omega), if_pos h56] at this
    exact of_decide_eq_true this
   have e1 : nm = [] := h2.2.2.1 (by omega)
   have e2 : v = 0 := h2.2.2.2.1 (by omega) (by omega) (by omega) (by omega)
   subst h1; subst e1; subst e2
   match args, hl with
   | a :: c :: d, _ => rfl
  rw [if_neg h56]
  rw [if_neg (by rintro ⟨e, h'⟩; rw [h3.2.1 e] at h'; cases h')]
  rw [if_neg (by
   rintro ⟨e, h' | h'⟩
   ·rw [(h3.2.2.1 e).1] at h'; cases h'
   ·exact (h3.2.2.1 e).2 h')]
  rw [if_neg (by
   rintro ⟨e, h' | h'⟩
   ·rw [(h3.2.2.2 e).1] at h'; cases h'
   ·exact (h3.2.2.2 e).2 h')]
  rw [h1]
end Go.Proofs.YtkhhjdjmhbdjfaaGreatDoor
namespace Go.Proofs.YtkhhjdjmhbdjfaaGreatDoor
set_option linter.unusedVariables false
variable {mk : Prop} [MK mk]
theorem opp_mono {l m : List Fml} (h : ∀ x ∈ l, x ∈ m) (ho : oppB l = true) : oppB m = true := by
 rw [opp_iff] at ho ⊢
 obtain ⟨x, h1, h2, h3⟩ := ho
 exact ⟨x, h x h1, h2, h _ h3⟩
theorem zAny_app (op : Int) (l m : List Fml) : CE op (l ++ m) = (CE op l || CE op m) := by simp [CE]
theorem zAny_cons (op : Int) (a : Fml) (m : List Fml) : CE op (a :: m) = (decide (a.op = Bf op) || CE op m) := rfl
theorem Ch {op : Int} (h : op = 5 ∨ op = 6) {l : List Fml} (hz : CE op l = true) : B1 op l = conO (Bf op) := by rw [B4 h, hz]; rfl
theorem joinM_opp {op : Int} (h : op = 5 ∨ op = 6) {l : List Fml} (ho : oppB (l.flatMap (Fl op)) = true) : B1 op l = conO (Bf op) := by
 rw [B4 h, CZ, opp_dist, ho]
 cases CE op l <;> rfl
theorem join_nest {op : Int} (h : op = 5 ∨ op = 6) {pre m post : List Fml} (hm : ∀ c ∈ m, CF c) : B1 op (pre ++ B1 op m :: post) = B1 op (pre ++ (m ++ post)) := by
 obtain ⟨u1, u2, u3, u4, u5⟩ := uz_ne h
 have hzz : (conO (Bf op)).op = Bf op := rfl
 cases hz : CE op m with
 | true =>
  rw [Ch h hz]
  rw [Ch h (by rw [zAny_app, zAny_cons, hzz]; simp), Ch h (by rw [zAny_app, zAny_app, hz]; simp)]
 | false =>
  have hp := dist_parts h hm hz
  have hd : ∀ x, x ∈ Cp (m.flatMap (Fl op)) ↔ x ∈ m.flatMap (Fl op) := fun x => mem_dist
  rw [B4 h m, hz]
  simp only [Bool.false_eq_true, if_false]
  rw [CZ]
  generalize Cp (m.flatMap (Fl op)) = d at hp hd
  cases ho : oppB d with
  | true =>
   simp only [if_true]
   rw [Ch h (by rw [zAny_app, zAny_cons, hzz]; simp)]
   refine (joinM_opp h (opp_mono (fun x hx => ?_) ho)).symm
   rw [List.flatMap_append, List.flatMap_append]
   exact List.mem_append_right _ (List.mem_append_left _ ((hd x).1 hx))
  | false =>
   simp only [Bool.false_eq_true, if_false]
   have key : ∀ c : Fml, c.op ≠ Bf op → (∀ x, x ∈ Fl op c ↔ x ∈ d) → B1 op (pre ++ c :: post) = B1 op (pre ++ (m ++ post)) := by
    intro c hc hf
    refine joinM_ext h ?_ fun x => ?_
    ·rw [zAny_app, zAny_app, zAny_app, zAny_cons, hz, decide_eq_false hc]
    ·rw [List.flatMap_append, List.flatMap_append, List.flatMap_append, List.flatMap_cons]
     simp only [List.mem_append]
     rw [hf x, hd x]
   match d, hp, key with
   | [], _, key =>
    refine key (conO (B2 op)) (fun e => u3 e.symm) fun x => ?_
    have : Fl op (conO (B2 op)) = [] := by unfold Fl; rw [if_neg (show (conO (B2 op)).op ≠ op from u2)]; exact if_pos rfl
    rw [this]
   | [a], hp, key =>
    have ha := hp a (by simp)
    refine key a ha.2.2.1 fun x => ?_
    rw [fl_self ha.2.1 ha.2.2.2]
   | a :: c :: d, hp, key =>
    refine key (opF op (a :: c :: d)) (fun e => u1 e.symm) fun x => ?_
    have : Fl op (opF op (a :: c :: d)) = a :: c :: d := by unfold Fl; exact if_pos rfl
    rw [this]
theorem join_one {op : Int} (h : op = 5 ∨ op = 6) {c : Fml} (hc : CF c) : B1 op [c] = c := by
 obtain ⟨u1, u2, u3, u4, u5⟩ := uz_ne h
 by_cases hz : c.op = Bf op
 ·rw [Ch h (by rw [zAny_cons, decide_eq_true hz]; rfl)]
  rw [sh_con (Cx hc) (by rw [hz]; exact u4), hz]
 have hz' : CE op [c] = false := by rw [zAny_cons, decide_eq_false hz]; rfl
 rw [B4 h, hz']
 simp only [Bool.false_eq_true, if_false, List.flatMap_cons, List.flatMap_nil, List.append_nil]
 obtain ⟨_, h2, h3, h4⟩ := cf_eq hc
 unfold Fl
 by_cases ho : c.op = op
 ·rw [if_pos ho]
  obtain ⟨q1, q2, q3⟩ := h3.1 (by rw [ho]; exact h)
  rw [dist_id q1, CZ, q2]
  have hl : 2 ≤ c.args.length := by
   have := h2.2.1
   unfold A8 at this
   rw [if_neg (by omega), if_pos (by rw [ho]; exact h)] at this
   exact of_decide_eq_true this
  have e1 := h2.2.2.1 (by omega)
  have e2 := h2.2.2.2.1 (by omega) (by omega) (by omega) (by omega)
  obtain ⟨o, nm, v, b, args⟩ := c
  simp only [Fml.op, Fml.args, Fml.name, Fml.val] at ho hl e1 e2
  obtain ⟨hb, _⟩ := cf_iff.1 hc
  subst ho; subst e1; subst e2; subst hb
  match args, hl with
  | a :: c :: d, _ => rfl
 ·rw [if_neg ho]
  by_cases hu : c.op = B2 op
  ·rw [if_pos hu]
   have : c = conO (B2 op) := by rw [sh_con (Cx hc) (by rw [hu]; exact u5), hu]
   rw [this]; rfl
  ·rw [if_neg hu]
   have e : Cp [c] = [c] := rfl
   rw [e, CZ]
   have : oppB [c] = false := by
    rw [← Bool.not_eq_true, opp_iff]
    rintro ⟨x, hx, h5, h6⟩
    have : x = c := by simpa using hx
    subst this
    have h7 : x.args.getD 0 Af = x := by simpa using h6
    have hl : x.args.length = 1 := by
     have := h2.2.1
     rw [h5] at this
     simpa [A8] using this
    obtain ⟨y, hy⟩ := Ck hl
    have h8 := h2.2.2.2.2 h5 y (by rw [hy]; simp)
    rw [hy] at h7
    have : y = x := h7
    rw [this, h5] at h8
    cases h8
   rw [this]; rfl
theorem aged_op (x : Vl) (f : Fml) : (CG x f).op = f.op := by obtain ⟨op, nm, v, b, args⟩ := f; rfl
theorem aged_eq (x : Vl) (op : Int) (nm : List UInt8) (v b : Int) (args : List Fml) : CG x (.mk op nm v b args) = .mk op nm (agedV x op v ((args.map (BH x)).getD 0 false) (BH x (.mk op nm v b args))) 0 (args.map (CG x)) := by rw [CG, agedL_eq]
theorem Cg (x : Vl) {op : Int} (v : Int) (a b : Bool) (h : ¬(op = 15 ∨ op = 16 ∨ op = 17)) : agedV x op v a b = v := by
 unfold agedV
 rw [if_neg (by omega), if_neg (by omega)]
theorem sh_aged (x : Vl) : ∀ {f : Fml}, Sh f → Sh (CG x f)
 | .mk op nm v b args, h => by
  obtain ⟨_, ⟨h1, h2, h3, h4, h5⟩, h6⟩ := sh_iff.1 h
  rw [aged_eq]
  refine sh_iff.2 ⟨rfl, ⟨h1, by rw [List.length_map]; exact h2, h3, fun e1 e2 e3 e4 => ?_, fun e a ha => ?_⟩, fun a ha => ?_⟩
  ·rw [Cg x v _ _ (by omega)]; exact h4 e1 e2 e3 e4
  ·obtain ⟨c, hc, rfl⟩ := List.mem_map.1 ha
   rw [aged_op]; exact h5 e c hc
  ·obtain ⟨c, hc, rfl⟩ := List.mem_map.1 ha
   exact sh_aged x (h6 c hc)
def CA (x : Vl) (f : Fml) : Fml := Al (CG x f)
theorem ca_cf (x : Vl) {f : Fml} (h : Sh f) : CF (CA x f) := canon_cf (sh_aged x h)
theorem ca_con (x : Vl) {op : Int} (h : op = 1 ∨ op = 2) : CA x (conO op) = conO op := by rcases h with rfl | rfl <;> rfl
theorem ca_op {op : Int} (x : Vl) (h : op = 5 ∨ op = 6) (nm : List UInt8) (v b : Int) (args : List Fml) : CA x (.mk op nm v b args) = B1 op (args.map (CA x)) := by
 unfold CA
 rw [aged_eq, CH, List.map_map]
 unfold BP
 rw [if_pos h]; rfl
theorem ca_lit (x : Vl) {f : Fml} (h : Sh f) (h3 : f.op = 3) : CA x f = f := by
 obtain ⟨op, nm, v, b, args⟩ := f
 obtain rfl : op = 3 := h3
 obtain ⟨h1, ⟨_, h2, _⟩, _⟩ := sh_iff.1 h
 have : args = [] := by
  have e : args.length = 0 := by simpa [A8] using h2
  exact List.eq_nil_of_length_eq_zero e
 subst this; subst h1; rfl
theorem ca_not (x : Vl) {f : Fml} (h : Sh f) (h4 : f.op = 4) : CA x f = f := by
 obtain ⟨op, nm, v, b, args⟩ := f
 obtain rfl : op = 4 := h4
 obtain ⟨h1, ⟨_, h2, h3, h5, h6⟩, h7⟩ := sh_iff.1 h
 have hl : args.length = 1 := by simpa [A8] using h2
 obtain ⟨y, rfl⟩ := Ck hl
 have hy := ca_lit x (h7 y (by simp)) (h6 rfl y (by simp))
 unfold CA at hy ⊢
 rw [aged_eq, CH, Cg x v _ _ (by omega)]
 simp only [List.map_cons, List.map_nil, hy]
 subst h1; rfl
theorem join_flat {op : Int} (x : Vl) (h : op = 5 ∨ op = 6) : ∀ (ps pre : List Fml), (∀ c ∈ ps, CF c) → CE op ps = false → B1 op (pre ++ ps.map (CA x)) = B1 op (pre ++ (ps.flatMap (Fl op)).map (CA x))
 | [], pre, _, _ => by simp
 | p :: ps, pre, hp, hz => by
  obtain ⟨u1, u2, u3, u4, u5⟩ := uz_ne h
  rw [zAny_cons, Bool.or_eq_false_iff] at hz
  have hpz : p.op ≠ Bf op := of_decide_eq_false hz.1
  have hc := hp p (by simp)
  have ih := fun pre' => join_flat x h ps pre' (fun c hc' => hp c (by simp [hc'])) hz.2
  rw [List.map_cons, List.flatMap_cons, List.map_append]
  unfold Fl
  by_cases ho : p.op = op
  ·rw [if_pos ho]
   obtain ⟨o, nm, v, b, args⟩ := p
   obtain rfl : o = op := ho
   rw [ca_op x h, join_nest h fun c hc' => by
    obtain ⟨a, ha, rfl⟩ := List.mem_map.1 hc'
    exact ca_cf x (Cx ((cf_iff.1 hc).2.2.2 a ha))]
   have := ih (pre ++ args.map (CA x))
   rw [List.append_assoc, List.append_assoc] at this
   exact this
  ·rw [if_neg ho]
   by_cases hu : p.op = B2 op
   ·rw [if_pos hu]
    have e : CA x p = B1 op [] := by
     rw [sh_con (Cx hc) (by rw [hu]; exact u5), hu, ca_con x u5]; rfl
    rw [e, join_nest h (fun c hc' => by cases hc')]
    exact ih pre
   ·rw [if_neg hu]
    have := ih (pre ++ [CA x p])
    rw [List.append_assoc, List.append_assoc] at this
    exact this
theorem join_map_ext {op : Int} (x : Vl) (h : op = 5 ∨ op = 6) {l m : List Fml} (he : ∀ a, a ∈ l ↔ a ∈ m) : B1 op (l.map (CA x)) = B1 op (m.map (CA x)) := by
 refine joinM_ext h ?_ fun a => ?_
 ·rw [Bool.eq_iff_iff, zAny_true, zAny_true]
  constructor
  ·rintro ⟨c, hc, e⟩
   obtain ⟨a, ha, rfl⟩ := List.mem_map.1 hc
   exact ⟨_, List.mem_map_of_mem ((he a).1 ha), e⟩
  ·rintro ⟨c, hc, e⟩
   obtain ⟨a, ha, rfl⟩ := List.mem_map.1 hc
   exact ⟨_, List.mem_map_of_mem ((he a).2 ha), e⟩
 ·simp only [List.mem_flatMap, List.mem_map]
  constructor
  ·rintro ⟨c, ⟨b, hb, rfl⟩, e⟩; exact ⟨_, ⟨b, (he b).1 hb, rfl⟩, e⟩
  ·rintro ⟨c, ⟨b, hb, rfl⟩, e⟩; exact ⟨_, ⟨b, (he b).2 hb, rfl⟩, e⟩
theorem ca_join {op : Int} (x : Vl) (h : op = 5 ∨ op = 6) {ps : List Fml} (hp : ∀ c ∈ ps, CF c) : CA x (B1 op ps) = B1 op (ps.map (CA x)) := by
 obtain ⟨u1, u2, u3, u4, u5⟩ := uz_ne h
 cases hz : CE op ps with
 | true =>
  rw [Ch h hz, ca_con x u4]
  obtain ⟨c, hc, e⟩ := zAny_true.1 hz
  have : CA x c = conO (Bf op) := by rw [sh_con (Cx (hp c hc)) (by rw [e]; exact u4), e, ca_con x u4]
  refine (Ch h (zAny_true.2 ⟨CA x c, List.mem_map_of_mem hc, ?_⟩)).symm
  rw [this]; rfl
 | false =>
  have e1 := join_flat x h ps [] hp hz
  rw [List.nil_append, List.nil_append] at e1
  rw [e1]
  have hd := dist_parts h hp hz
  rw [join_map_ext x h (m := Cp (ps.flatMap (Fl op))) fun a => mem_dist.symm]
  rw [B4 h ps, hz]
  simp only [Bool.false_eq_true, if_false]
  rw [CZ]
  generalize Cp (ps.flatMap (Fl op)) = d at hd
  cases ho : oppB d with
  | true =>
   simp only [if_true]
   rw [ca_con x u4]
   refine (joinM_opp h ?_).symm
   obtain ⟨y, hy, h4, hz4⟩ := opp_iff.1 ho
   refine opp_iff.2 ⟨y, ?_, h4, ?_⟩
   ·rw [List.mem_flatMap]
    refine ⟨y, ?_, ?_⟩
    ·have := List.mem_map_of_mem (f := CA x) hy
     rwa [ca_not x (Cx (hd y hy).1) h4] at this
    ·rw [fl_self (hd y hy).2.1 (hd y hy).2.2.2]; simp
   ·generalize hq : y.args.getD 0 Af = q at hz4
    have hq3 : q.op = 3 := by
     obtain ⟨_, h2, _⟩ := sh_eq (Cx (hd y hy).1)
     have hl : y.args.length = 1 := by
      have := h2.2.1
      rw [h4] at this
      simpa [A8] using this
     obtain ⟨z, hz⟩ := Ck hl
     rw [hz] at hq
     have : z = q := hq
     subst this
     exact h2.2.2.2.2 h4 z (by rw [hz]; simp)
    rw [List.mem_flatMap]
    refine ⟨q, ?_, ?_⟩
    ·have := List.mem_map_of_mem (f := CA x) hz4
     rwa [ca_lit x (Cx (hd q hz4).1) hq3] at this
    ·rw [fl_self (hd q hz4).2.1 (hd q hz4).2.2.2]; simp
  | false =>
   simp only [Bool.false_eq_true, if_false]
   match d, hd with
   | [], _ => exact ca_con x u5
   | [a], hd => exact (join_one h (ca_cf x (Cx (hd a (by simp)).1))).symm
   | a :: c :: d, _ => exact ca_op x h [] 0 0 _
end Go.Proofs.YtkhhjdjmhbdjfaaGreatDoor
namespace Go.Proofs.YtkhhjdjmhbdjfaaGreatDoor
set_option linter.unusedVariables false
variable {mk : Prop} [MK mk]
theorem fl_now {op : Int} (x : Vl) (h : op = 5 ∨ op = 6) {c : Fml} (hc : CF c) (hz : c.op ≠ Bf op) : BH x c = if op = 5 then (Fl op c).all (BH x) else (Fl op c).any (BH x) := by
 obtain ⟨u1, u2, u3, u4, u5⟩ := uz_ne h
 unfold Fl
 by_cases ho : c.op = op
 ·rw [if_pos ho]
  obtain ⟨o, nm, v, b, args⟩ := c
  obtain rfl : o = op := ho
  rw [nowM_eq]
  rcases h with rfl | rfl
  ·simp [CO, List.all_map, Fml.args]
  ·simp [CO, List.any_map, Fml.args]
 ·rw [if_neg ho]
  by_cases hu : c.op = B2 op
  ·rw [if_pos hu, sh_con (Cx hc) (by rw [hu]; exact u5), hu]
   rcases h with rfl | rfl <;> rfl
  ·rw [if_neg hu]
   by_cases h5 : op = 5
   ·simp [h5]
   ·simp [h5]
theorem all_flat {α : Type} (p : α → Bool) (g : α → List α) : ∀ l : List α, (∀ c ∈ l, p c = (g c).all p) → l.all p = (l.flatMap g).all p
 | [], _ => rfl
 | a :: l, h => by rw [List.all_cons, List.flatMap_cons, List.all_append, h a (by simp), all_flat p g l fun c hc => h c (by simp [hc])]
theorem any_flat {α : Type} (p : α → Bool) (g : α → List α) : ∀ l : List α, (∀ c ∈ l, p c = (g c).any p) → l.any p = (l.flatMap g).any p
 | [], _ => rfl
 | a :: l, h => by rw [List.any_cons, List.flatMap_cons, List.any_append, h a (by simp), any_flat p g l fun c hc => h c (by simp [hc])]
theorem all_ext {α : Type} (p : α → Bool) {l m : List α} (h : ∀ x, x ∈ l ↔ x ∈ m) : l.all p = m.all p := by
 rw [Bool.eq_iff_iff, List.all_eq_true, List.all_eq_true]
 exact ⟨fun q x hx => q x ((h x).2 hx), fun q x hx => q x ((h x).1 hx)⟩
theorem any_ext {α : Type} (p : α → Bool) {l m : List α} (h : ∀ x, x ∈ l ↔ x ∈ m) : l.any p = m.any p := by
 rw [Bool.eq_iff_iff, List.any_eq_true, List.any_eq_true]
 exact ⟨fun ⟨x, a, b⟩ => ⟨x, (h x).1 a, b⟩, fun ⟨x, a, b⟩ => ⟨x, (h x).2 a, b⟩⟩
theorem now_join {op : Int} (x : Vl) (h : op = 5 ∨ op = 6) {ps : List Fml} (hp : ∀ c ∈ ps, CF c) : BH x (B1 op ps) = if op = 5 then ps.all (BH x) else ps.any (BH x) := by
 obtain ⟨u1, u2, u3, u4, u5⟩ := uz_ne h
 have hzn : BH x (conO (Bf op)) = !decide (op = 5) := by rcases h with rfl | rfl <;> rfl
 have hun : BH x (conO (B2 op)) = decide (op = 5) := by rcases h with rfl | rfl <;> rfl
 cases hz : CE op ps with
 | true =>
  rw [Ch h hz, hzn]
  obtain ⟨c, hc, e⟩ := zAny_true.1 hz
  have ec : c = conO (Bf op) := by rw [sh_con (Cx (hp c hc)) (by rw [e]; exact u4), e]
  have hcn : BH x c = !decide (op = 5) := by rw [ec, hzn]
  by_cases h5 : op = 5
  ·rw [if_pos h5]
   rw [decide_eq_true h5] at hcn ⊢
   symm
   rw [Bool.not_true, ← Bool.not_eq_true, List.all_eq_true]
   intro q
   have := q c hc
   rw [hcn] at this; cases this
  ·rw [if_neg h5]
   rw [decide_eq_false h5] at hcn ⊢
   exact (List.any_eq_true.2 ⟨c, hc, hcn⟩).symm
 | false =>
  have hd := dist_parts h hp hz
  have hm : ∀ y, y ∈ Cp (ps.flatMap (Fl op)) ↔ y ∈ ps.flatMap (Fl op) := fun y => mem_dist
  have e1 : (if op = 5 then ps.all (BH x) else ps.any (BH x)) = if op = 5 then (Cp (ps.flatMap (Fl op))).all (BH x) else (Cp (ps.flatMap (Fl op))).any (BH x) := by
   by_cases h5 : op = 5
   ·rw [if_pos h5, if_pos h5, all_ext (BH x) hm]
    exact all_flat _ _ _ fun c hc => by rw [fl_now x h (hp c hc) (zAny_false.1 hz c hc), if_pos h5]
   ·rw [if_neg h5, if_neg h5, any_ext (BH x) hm]
    exact any_flat _ _ _ fun c hc => by rw [fl_now x h (hp c hc) (zAny_false.1 hz c hc), if_neg h5]
  rw [e1, B4 h ps, hz]
  simp only [Bool.false_eq_true, if_false]
  rw [CZ]
  generalize Cp (ps.flatMap (Fl op)) = d at hd
  cases ho : oppB d with
  | true =>
   simp only [if_true]
   rw [hzn]
   obtain ⟨y, hy, h4, hz4⟩ := opp_iff.1 ho
   have hn : BH x y = !BH x (y.args.getD 0 Af) := by
    obtain ⟨_, h2, _⟩ := sh_eq (Cx (hd y hy).1)
    have hl : y.args.length = 1 := by
     have := h2.2.1
     rw [h4] at this
     simpa [A8] using this
    obtain ⟨o, nm, v, b, args⟩ := y
    obtain rfl : o = 4 := h4
    obtain ⟨z, rfl⟩ := Ck (show args.length = 1 from hl)
    rw [nowM_eq]; rfl
   by_cases h5 : op = 5
   ·rw [if_pos h5, decide_eq_true h5]
    symm
    rw [Bool.not_true, ← Bool.not_eq_true, List.all_eq_true]
    intro q
    have q1 := q y hy
    have q2 := q _ hz4
    rw [hn, q2] at q1; cases q1
   ·rw [if_neg h5, decide_eq_false h5, Bool.not_false]
    symm
    rw [List.any_eq_true]
    cases hq : BH x (y.args.getD 0 Af) with
    | true => exact ⟨_, hz4, hq⟩
    | false => exact ⟨y, hy, by rw [hn, hq]; rfl⟩
  | false =>
   simp only [Bool.false_eq_true, if_false]
   match d, hd with
   | [], _ => show BH x (conO (B2 op)) = _; rw [hun]; by_cases h5 : op = 5 <;> simp [h5]
   | [a], _ => by_cases h5 : op = 5 <;> simp [h5]
   | a :: c :: d, _ =>
    show BH x (opF op (a :: c :: d)) = _
    unfold opF
    rw [nowM_eq]
    rcases h with rfl | rfl
    ·simp [CO, List.all_map]
    ·simp [CO, List.any_map]
theorem now_canon (x : Vl) : ∀ {f : Fml}, Sh f → Bv f = true → BH x (Al f) = BH x f
 | .mk op nm v b args, h, hp => by
  obtain ⟨_, h2, h3⟩ := sh_iff.1 h
  simp only [Bv, Bool.and_eq_true, Bool.not_eq_true', Bool.or_eq_false_iff, decide_eq_false_iff_not] at hp
  obtain ⟨⟨⟨p1, p2⟩, p3⟩, p4⟩ := hp
  have ih : ∀ a ∈ args, BH x (Al a) = BH x a := fun a ha => now_canon x (h3 a ha) (pastL_mem p4 ha)
  rw [CH]
  unfold BP
  by_cases h56 : op = 5 ∨ op = 6
  ·rw [if_pos h56, now_join x h56 fun c hc => by obtain ⟨a, ha, rfl⟩ := List.mem_map.1 hc; exact canon_cf (h3 a ha)]
   have e1 : (args.map Al).all (BH x) = args.all (BH x) := by
    rw [List.all_map, Bool.eq_iff_iff, List.all_eq_true, List.all_eq_true]
    exact ⟨fun q a ha => by rw [← ih a ha]; exact q a ha, fun q a ha => by show BH x (Al a) = true; rw [ih a ha]; exact q a ha⟩
   have e2 : (args.map Al).any (BH x) = args.any (BH x) := by
    rw [List.any_map, Bool.eq_iff_iff, List.any_eq_true, List.any_eq_true]
    exact ⟨fun ⟨a, ha, q⟩ => ⟨a, ha, by rw [← ih a ha]; exact q⟩, fun ⟨a, ha, q⟩ => ⟨a, ha, by show BH x (Al a) = true; rw [ih a ha]; exact q⟩⟩
   rw [e1, e2, nowM_eq]
   rcases h56 with rfl | rfl
   ·simp [CO, List.all_map]
   ·simp [CO, List.any_map]
  ·rw [if_neg h56, if_neg (fun q => p1 q.1), if_neg (fun q => p2 q.1), if_neg (fun q => p3 q.1), nowM_eq, nowM_eq, List.map_map]
   congr 1
   exact List.map_congr_left ih
theorem getD_map {α β : Type} (g : α → β) (l : List α) (i : Nat) (a : α) (b : β) (hi : i < l.length) : (l.map g).getD i b = g (l.getD i a) := by
 simp [List.getD_eq_getElem?_getD, List.getElem?_eq_getElem hi]
theorem isCon_iff {f : Fml} : Bo f = true ↔ f.op = 1 ∨ f.op = 2 := by simp [Bo]
theorem C7 (nm : List UInt8) (v : Int) (l : List Fml) : BP 8 nm v l = if Bo (l.getD 0 Af) = true then l.getD 0 Af else ⟨8, nm, v, 0, l⟩ := by
 unfold BP
 rw [if_neg (by omega), if_neg (show ¬((8 : Int) = 9 ∧ _) from fun q => absurd q.1 (by omega)), if_neg (show ¬((8 : Int) = 10 ∧ _) from fun q => absurd q.1 (by omega))]
 simp
theorem canonOp_9 (nm : List UInt8) (v : Int) (l : List Fml) : BP 9 nm v l = if Bo (l.getD 1 Af) = true ∨ (l.getD 0 Af).op = 2 then l.getD 1 Af else ⟨9, nm, v, 0, l⟩ := by
 unfold BP
 rw [if_neg (by omega), if_neg (show ¬((9 : Int) = 8 ∧ _) from fun q => absurd q.1 (by omega)), if_neg (show ¬((9 : Int) = 10 ∧ _) from fun q => absurd q.1 (by omega))]
 simp
theorem C3 (nm : List UInt8) (v : Int) (l : List Fml) : BP 10 nm v l = if Bo (l.getD 1 Af) = true ∨ (l.getD 0 Af).op = 1 then l.getD 1 Af else ⟨10, nm, v, 0, l⟩ := by
 unfold BP
 rw [if_neg (by omega), if_neg (show ¬((10 : Int) = 8 ∧ _) from fun q => absurd q.1 (by omega)), if_neg (show ¬((10 : Int) = 9 ∧ _) from fun q => absurd q.1 (by omega))]
 simp
theorem canonOp_E {op : Int} (h : ¬(op = 5 ∨ op = 6)) (h8 : op ≠ 8) (h9 : op ≠ 9) (h10 : op ≠ 10) (nm : List UInt8) (v : Int) (l : List Fml) : BP op nm v l = ⟨op, nm, v, 0, l⟩ := by
 unfold BP
 rw [if_neg h, if_neg (fun q => h8 q.1), if_neg (fun q => h9 q.1), if_neg (fun q => h10 q.1)]
theorem ca_iscon (x : Vl) {f : Fml} (h : Sh f) (hc : Bo f = true) : CA x f = f := by
 have ho := isCon_iff.1 hc
 rw [sh_con h ho, ca_con x ho]
theorem ca_canon (x : Vl) : ∀ {f : Fml} {i : Bool}, A9 i f = true → CA x (Al f) = CA x f
 | .mk op nm v b args, i, h => by
  have hsh := sh_bare h
  obtain ⟨_, h2, h3⟩ := sh_iff.1 hsh
  simp only [A9, Bool.and_eq_true] at h
  obtain ⟨⟨⟨⟨h1, _⟩, _⟩, _⟩, hb⟩ := h
  have hlc := CP h1
  have ih : ∀ a ∈ args, CA x (Al a) = CA x a := fun a ha => ca_canon x (bareL_mem hb ha)
  have hcf : ∀ a ∈ args, CF (Al a) := fun a ha => canon_cf (h3 a ha)
  rw [CH]
  by_cases h56 : op = 5 ∨ op = 6
  ·unfold BP
   rw [if_pos h56, ca_join x h56 fun c hc => by obtain ⟨a, ha, rfl⟩ := List.mem_map.1 hc; exact hcf a ha]
   rw [ca_op x h56, List.map_map]
   congr 1
   exact List.map_congr_left ih
  have hg : ∀ k, k < args.length → (args.map Al).getD k Af = Al (args.getD k Af) ∧ CA x (Al (args.getD k Af)) = CA x (args.getD k Af) ∧ CF (Al (args.getD k Af)) := fun k hk => by
   have hm : args.getD k Af ∈ args := by
    rw [List.getD_eq_getElem?_getD, List.getElem?_eq_getElem hk]; exact List.getElem_mem hk
   exact ⟨getD_map Al args k Af Af hk, ih _ hm, hcf _ hm⟩
  have hra : ∀ l : List Fml, (∀ a ∈ l, CA x (Al a) = CA x a) → (l.map Al).map (CA x) = l.map (CA x) := fun l hl => by
   rw [List.map_map]; exact List.map_congr_left hl
  have node : ∀ (w b : Int) (l : List Fml), CA x (.mk op nm w b l) = BP op nm (agedV x op w ((l.map (BH x)).getD 0 false) (BH x (.mk op nm w b l))) (l.map (CA x)) := fun w b l => by
   unfold CA
   rw [aged_eq, CH, List.map_map]; rfl
  by_cases hp : op = 15 ∨ op = 16 ∨ op = 17
  ·have hps : pstB op = true := by unfold pstB; rw [Bool.and_eq_true, decide_eq_true_eq, decide_eq_true_eq]; omega
   have hpast : ∀ a ∈ args, BH x (Al a) = BH x a := fun a ha => by
    have := bareL_mem hb ha
    rw [hps, Bool.or_true] at this
    exact now_canon x (h3 a ha) (bare_past a this)
   have e : BP op nm v (args.map Al) = .mk op nm v 0 (args.map Al) := by
    unfold BP
    rw [if_neg h56, if_neg (by omega), if_neg (by omega), if_neg (by omega)]
   have e1 : ((args.map Al).map (BH x)) = args.map (BH x) := by rw [List.map_map]; exact List.map_congr_left hpast
   rw [e, node, node, hra args ih, e1]
   have e2 : BH x (.mk op nm v 0 (args.map Al)) = BH x (.mk op nm v b args) := by rw [nowM_eq, nowM_eq, e1]
   rw [e2]
  have hk : ∀ a b, agedV x op v a b = v := fun a b => Cg x v a b hp
  have a8 : op = 8 → args.length = 1 := fun e => by
   have := h2.2.1
   subst e; simpa [A8] using this
  have a9 : op = 9 ∨ op = 10 → args.length = 2 := fun e => by
   have := h2.2.1
   unfold A8 at this
   rw [if_neg (by omega), if_neg h56, if_pos (by omega)] at this
   exact of_decide_eq_true this
  rw [node v b args, hk]
  by_cases e8 : op = 8
  ·subst e8
   have hl := a8 rfl
   obtain ⟨q1, q2, q3⟩ := hg 0 (by omega)
   have r1 : (args.map (CA x)).getD 0 Af = CA x (args.getD 0 Af) := getD_map _ _ _ _ _ (by omega)
   rw [C7, C7, q1, r1]
   cases hc : Bo (Al (args.getD 0 Af)) with
   | true =>
    have q4 := ca_iscon x (Cx q3) hc
    rw [if_pos rfl, ← q2, q4, if_pos hc]
   | false =>
    rw [if_neg (by simp), node v 0, hk, hra args ih, C7, r1]
  by_cases e9 : op = 9
  ·subst e9
   have hl := a9 (.inl rfl)
   obtain ⟨q1, q2, q3⟩ := hg 0 (by omega)
   obtain ⟨s1, s2, s3⟩ := hg 1 (by omega)
   have r0 : (args.map (CA x)).getD 0 Af = CA x (args.getD 0 Af) := getD_map _ _ _ _ _ (by omega)
   have r1 : (args.map (CA x)).getD 1 Af = CA x (args.getD 1 Af) := getD_map _ _ _ _ _ (by omega)
   rw [canonOp_9, canonOp_9, q1, s1, r0, r1]
   by_cases hc : Bo (Al (args.getD 1 Af)) = true ∨ (Al (args.getD 0 Af)).op = 2
   ·rw [if_pos hc, s2]
    rcases hc with hc | hc
    ·have s4 := ca_iscon x (Cx s3) hc
     rw [if_pos (.inl (by rw [← s2, s4]; exact hc))]
    ·have q4 := ca_iscon x (Cx q3) (isCon_iff.2 (.inr hc))
     rw [if_pos (.inr (by rw [← q2, q4]; exact hc))]
   ·rw [if_neg hc, node v 0, hk, hra args ih, canonOp_9, r0, r1]
  by_cases e10 : op = 10
  ·subst e10
   have hl := a9 (.inr rfl)
   obtain ⟨q1, q2, q3⟩ := hg 0 (by omega)
   obtain ⟨s1, s2, s3⟩ := hg 1 (by omega)
   have r0 : (args.map (CA x)).getD 0 Af = CA x (args.getD 0 Af) := getD_map _ _ _ _ _ (by omega)
   have r1 : (args.map (CA x)).getD 1 Af = CA x (args.getD 1 Af) := getD_map _ _ _ _ _ (by omega)
   rw [C3, C3, q1, s1, r0, r1]
   by_cases hc : Bo (Al (args.getD 1 Af)) = true ∨ (Al (args.getD 0 Af)).op = 1
   ·rw [if_pos hc, s2]
    rcases hc with hc | hc
    ·have s4 := ca_iscon x (Cx s3) hc
     rw [if_pos (.inl (by rw [← s2, s4]; exact hc))]
    ·have q4 := ca_iscon x (Cx q3) (isCon_iff.2 (.inl hc))
     rw [if_pos (.inr (by rw [← q2, q4]; exact hc))]
   ·rw [if_neg hc, node v 0, hk, hra args ih, C3, r0, r1]
  ·rw [canonOp_E h56 e8 e9 e10, canonOp_E h56 e8 e9 e10, node v 0, hk, hra args ih, canonOp_E h56 e8 e9 e10]
end Go.Proofs.YtkhhjdjmhbdjfaaGreatDoor
namespace Go.Proofs.YtkhhjdjmhbdjfaaGreatDoor
set_option linter.unusedVariables false
variable {mk : Prop} [MK mk]
def Cm (op : Int) : Bool := decide (op = 15) || decide (op = 16) || decide (op = 17)
mutual
def chF (val : Fml → Int) : Fml → Fml
 | .mk op nm v b args => .mk op nm (if Cm op then val (.mk op nm v b args) else v) b (chL val args)
def chL (val : Fml → Int) : List Fml → List Fml
 | [] => []
 | a :: l => chF val a :: chL val l
end
theorem chL_eq (val : Fml → Int) : ∀ l, chL val l = l.map (chF val)
 | [] => rfl
 | a :: l => by rw [chL, chL_eq val l]; rfl
theorem chF_eq (val : Fml → Int) (op : Int) (nm : List UInt8) (v b : Int) (args : List Fml) : chF val (.mk op nm v b args) = .mk op nm (if Cm op then val (.mk op nm v b args) else v) b (args.map (chF val)) := by rw [chF, chL_eq]
mutual
def pnF : Fml → List Fml
 | .mk op nm v b args => pnL args ++ (if Cm op then [.mk op nm v b args] else [])
def pnL : List Fml → List Fml
 | [] => []
 | a :: l => pnF a ++ pnL l
end
theorem pnL_eq : ∀ l, pnL l = l.flatMap pnF
 | [] => rfl
 | a :: l => by rw [pnL, pnL_eq l]; rfl
theorem pnF_eq (op : Int) (nm : List UInt8) (v b : Int) (args : List Fml) : pnF (.mk op nm v b args) = args.flatMap pnF ++ (if Cm op then [.mk op nm v b args] else []) := by rw [pnF, pnL_eq]
theorem chF_congr {p q : Fml → Int} : ∀ {f : Fml}, (∀ g ∈ pnF f, p g = q g) → chF p f = chF q f
 | .mk op nm v b args, h => by
  rw [pnF_eq] at h
  rw [chF_eq, chF_eq]
  have e1 : args.map (chF p) = args.map (chF q) := List.map_congr_left fun a ha => chF_congr fun g hg => h g (List.mem_append_left _ (List.mem_flatMap.2 ⟨a, ha, hg⟩))
  rw [e1]
  cases hr : Cm op with
  | false => rfl
  | true =>
   have := h (.mk op nm v b args) (by rw [hr]; simp)
   rw [this]
theorem chF_self {p : Fml → Int} : ∀ {f : Fml}, (∀ g ∈ pnF f, p g = g.val) → chF p f = f
 | .mk op nm v b args, h => by
  rw [pnF_eq] at h
  rw [chF_eq]
  have e1 : args.map (chF p) = args := by
   have : ∀ l : List Fml, (∀ a ∈ l, chF p a = a) → l.map (chF p) = l := by
    intro l
    induction l with
    | nil => intro _; rfl
    | cons a l ih => intro hl; rw [List.map_cons, hl a (by simp), ih fun c hc => hl c (by simp [hc])]
   exact this args fun a ha => chF_self fun g hg => h g (List.mem_append_left _ (List.mem_flatMap.2 ⟨a, ha, hg⟩))
  rw [e1]
  cases hr : Cm op with
  | false => rfl
  | true =>
   have := h (.mk op nm v b args) (by rw [hr]; simp)
   rw [this]; rfl
theorem now_ch (x : Vl) (M : Fml → Bool) : ∀ f : Fml, BH x (chF (fun g => bitI (M g)) f) = B5 x M f
 | .mk op nm v b args => by
  rw [chF_eq, nowM_eq, B5, nowGL_eq, List.map_map]
  have e1 : args.map (BH x ∘ chF fun g => bitI (M g)) = args.map (B5 x M) := List.map_congr_left fun a _ => now_ch x M a
  rw [e1]
  generalize args.map (B5 x M) = ps
  cases hr : Cm op with
  | true =>
   have e2 : decide (bitI (M (.mk op nm v b args)) = 1) = M (.mk op nm v b args) := by cases M (.mk op nm v b args) <;> rfl
   simp only [if_true]
   rw [e2]
   simp only [Cm, Bool.or_eq_true, decide_eq_true_eq] at hr
   have q1 : ¬ op = 1 := by omega
   have q3 : ¬ op = 3 := by omega
   have q4 : ¬ op = 4 := by omega
   have q5 : ¬ op = 5 := by omega
   have q6 : ¬ op = 6 := by omega
   simp only [CO, q1, q3, q4, q5, q6, if_false]
  | false =>
   simp only [Bool.false_eq_true, if_false]
   simp only [Cm, Bool.or_eq_false_iff, decide_eq_false_iff_not] at hr
   simp only [CO, hr.1.1, hr.1.2, hr.2, if_false]
def nextM (x : Vl) (M : Fml → Bool) (g : Fml) : Bool := if g.op = 15 then B5 x M (g.args.getD 0 Af) else B5 x M g
theorem aged_ch (x : Vl) (M : Fml → Bool) : ∀ {f : Fml}, Sh f → CG x (chF (fun g => bitI (M g)) f) = chF (fun g => bitI (nextM x M g)) f
 | .mk op nm v b args, h => by
  obtain ⟨hb, h2, h3⟩ := sh_iff.1 h
  have hn := now_ch x M (.mk op nm v b args)
  rw [chF_eq] at hn
  rw [chF_eq, aged_eq, chF_eq, hn, List.map_map, List.map_map]
  have e1 : args.map (CG x ∘ chF fun g => bitI (M g)) = args.map (chF fun g => bitI (nextM x M g)) := List.map_congr_left fun a ha => aged_ch x M (h3 a ha)
  have e2 : args.map (BH x ∘ chF fun g => bitI (M g)) = args.map (B5 x M) := List.map_congr_left fun a _ => now_ch x M a
  rw [e1, e2, hb]
  congr 1
  cases hr : Cm op with
  | true =>
   simp only [if_true]
   simp only [Cm, Bool.or_eq_true, decide_eq_true_eq] at hr
   unfold agedV nextM
   by_cases h15 : op = 15
   ·rw [if_pos h15, if_pos (show (Fml.mk op nm v 0 args).op = 15 from h15)]
    have hl : args.length = 1 := by
     have := h2.2.1
     subst h15; simpa [A8] using this
    obtain ⟨a, rfl⟩ := Ck hl
    rfl
   ·rw [if_neg h15, if_pos (by omega), if_neg (show ¬ (Fml.mk op nm v 0 args).op = 15 from h15)]
  | false =>
   simp only [Bool.false_eq_true, if_false]
   simp only [Cm, Bool.or_eq_false_iff, decide_eq_false_iff_not] at hr
   exact Cg x v _ _ (by omega)
def memM : List Vl → (Fml → Bool) → Fml → Bool
 | [], M => M
 | x :: xs, M => memM xs (nextM x M)
def agedN : List Vl → Fml → Fml
 | [], f => f
 | x :: xs, f => agedN xs (CG x f)
theorem aged_mem : ∀ (xs : List Vl) (M : Fml → Bool) {f : Fml}, Sh f → agedN xs (chF (fun g => bitI (M g)) f) = chF (fun g => bitI (memM xs M g)) f
 | [], _, _, _ => rfl
 | x :: xs, M, f, h => by rw [agedN, aged_ch x M h, aged_mem xs (nextM x M) h]; rfl
def CB : Nat → Fml → Fml
 | 0, f => f
 | n + 1, f => opF 8 [CB n f]
theorem aged_next (x : Vl) (f : Fml) : ∀ n, CG x (CB n f) = CB n (CG x f)
 | 0 => rfl
 | n + 1 => by
  show CG x (.mk 8 [] 0 0 [CB n f]) = .mk 8 [] 0 0 [CB n (CG x f)]
  rw [aged_eq, Cg x 0 _ _ (by omega), ← aged_next x f n]; rfl
theorem bare_next {f : Fml} (h : A9 false f = true) : ∀ n, A9 false (CB n f) = true
 | 0 => h
 | n + 1 => by
  show A9 false (.mk 8 [] 0 0 [CB n f]) = true
  have := bare_next h n
  simp only [A9, bareL, Bool.and_true, List.length_cons, List.length_nil]
  rw [show (false || pstB 8) = false from rfl, this]; rfl
def resM (x : Vl) (f : Fml) : Fml := Al (rawF x f)
theorem raw_eq (x : Vl) (op : Int) (nm : List UInt8) (v b : Int) (args : List Fml) : rawF x (.mk op nm v b args) = if Bv (.mk op nm v b args) then constF (BH x (.mk op nm v b args)) else rawOp op (CG x (.mk op nm v b args)) (args.map (rawF x)) (args.map (CG x)) := by rw [rawF, rawL_eq, agedL_eq]
theorem step_next (x : Vl) {f : Fml} (h : A9 false f = true) (n : Nat) : resM x (Al (CB (n + 1) f)) = Al (CB n (CG x f)) := by
 have hb := bare_next h n
 have hsh := sh_bare hb
 have e0 : Al (CB n (CG x f)) = CA x (Al (CB n f)) := by rw [← aged_next, ca_canon x hb]; rfl
 rw [e0]
 have e1 : Al (CB (n + 1) f) = BP 8 [] 0 [Al (CB n f)] := by
  show Al (.mk 8 [] 0 0 [CB n f]) = _
  rw [CH]; rfl
 rw [e1, C7]
 have hcf := canon_cf hsh
 generalize Al (CB n f) = c at hcf
 show resM x (if Bo c = true then c else ⟨8, [], 0, 0, [c]⟩) = _
 cases hc : Bo c with
 | true =>
  rw [if_pos rfl, ca_iscon x (Cx hcf) hc, sh_con (Cx hcf) (isCon_iff.1 hc)]
  rcases isCon_iff.1 hc with e | e <;> rw [e] <;> rfl
 | false =>
  rw [if_neg (by simp)]
  unfold resM
  rw [raw_eq, if_neg (by simp [Bv])]
  rfl
end Go.Proofs.YtkhhjdjmhbdjfaaGreatDoor
namespace Go.Proofs.YtkhhjdjmhbdjfaaGreatDoor
open Go.RowKit
variable {mk : Prop} [MK mk]
attribute [local semireducible] WC AX Bx BT Bu finQ finD Bw
variable {P : Program} {all : Array Oper}
theorem stepP_mono {o : Oper} {f : Fr} {ds : DS} {w : World} {K K' : Value → DS → World → Prop} {Z Z' : List PanicEntry → World → Prop} (hK : ∀ v ds w, K v ds w → K' v ds w) (hZ : ∀ c w, Z c w → Z' c w) (h : Bw P o f ds w K Z) : Bw P o f ds w K' Z' := by
 unfold Bw at h ⊢
 revert h
 generalize (execOp (ev f) o).run P w = res
 intro h
 cases res with
 | halt x w' => cases x <;> first | exact h.elim | exact hZ _ _ h
 | ok m w' =>
  cases m with
  | value v => exact hK _ _ _ h
  | skip => exact hK _ _ _ h
  | defer d => exact hK _ _ _ h
  | enter g args =>
   refine Calls.mono h fun e w'' he => ?_
   cases e with
   | returned v => exact hK _ _ _ he
   | panicked ch => exact hZ _ _ he
   | outgrown => exact he
  | round l g tmps assign body =>
   refine RoundIn.mono h fun e w'' he => ?_
   cases e with
   | returned v => exact hK _ _ _ he
   | panicked ch => exact hZ _ _ he
   | outgrown => exact he
  | _ => exact h.elim
theorem WOps_mono {Z Z' : Fr → DS → List PanicEntry → World → Prop} {K K' : Fr → DS → World → Prop} (hK : ∀ f ds w, K f ds w → K' f ds w) (hZ : ∀ f ds c w, Z f ds c w → Z' f ds c w) : ∀ (l : List Oper) (f : Fr) (ds : DS) (w : World), AX P all Z K l f ds w → AX P all Z' K' l f ds w
 | [], f, ds, w, h => hK f ds w h
 | o :: rest, f, ds, w, h => by
  unfold AX at h ⊢
  split at h
  ·rename_i hg
   rw [if_pos hg]
   exact stepP_mono (fun v ds w hh => WOps_mono hK hZ rest _ ds w hh) (fun c w hh => hZ _ _ _ _ hh) h
  ·rename_i hg
   rw [if_neg hg]
   exact WOps_mono hK hZ rest _ ds w h
theorem C0 {n : Cf} : ∀ (c : Code) {Q Q' : CX} (_ : ∀ e f ds w, Q e f ds w → Q' e f ds w) (f : Fr) (ds : DS) (w : World), WC P n c Q f ds w → WC P n c Q' f ds w
 | .skip, _, _, hQ, f, ds, w, h => hQ _ f ds w h
 | .label _, _, _, hQ, f, ds, w, h => hQ _ f ds w h
 | .ret, _, _, hQ, f, ds, w, h => hQ _ f ds w h
 | .exit _, _, _, hQ, f, ds, w, h => hQ _ f ds w h
 | .goto _, _, _, _, _, _, _, h => h.elim
 | .refuse _, _, _, _, _, _, _, h => h.elim
 | .seq a b, _, _, hQ, f, ds, w, h => by
  refine C0 a ?_ f ds w h
  intro e f ds w hh
  cases e with
  | normal => exact C0 b hQ f ds w hh
  | _ => exact hQ _ f ds w hh
 | .block id c, _, _, hQ, f, ds, w, h => by
  refine C0 c ?_ f ds w h
  intro e f ds w hh
  cases e with
  | exit i =>
   simp only [BT] at hh ⊢
   split at hh
   ·rename_i hi; rw [if_pos hi]; exact hQ _ f ds w hh
   ·rename_i hi; rw [if_neg hi]; exact hQ _ f ds w hh
  | _ => exact hQ _ f ds w hh
 | .scope c, _, _, hQ, f, ds, w, h => by
  refine C0 c ?_ f ds w h
  intro e f ds w hh
  cases e with
  | goto _ => exact hh
  | _ => exact hQ _ f ds w hh
 | .cond c x y, _, _, hQ, f, ds, w, h => by
  simp only [WC] at h ⊢
  cases hc : ev f c <;> simp only [hc] at h ⊢
  case bool b =>
   cases b with
   | true => exact C0 x hQ f ds w h
   | false => exact C0 y hQ f ds w h
 | .region id ops draw, _, _, hQ, f, ds, w, h => by
  cases draw with
  | false => exact WOps_mono (fun f ds w hh => hQ _ f ds w hh) (fun f ds c w hh => hQ _ f ds w hh) ops.toList f ds w h
  | true => exact fun a h1 h2 h3 => wpIn_mono (h a h1 h2 h3) (lift_mono hQ)
 | .loop c, _, _, hQ, f, ds, w, h => by
  obtain ⟨α, I, μ, x, h0, hr⟩ := h
  refine ⟨α, I, μ, x, h0, fun x f ds w hI => C0 c ?_ f ds w (hr x f ds w hI)⟩
  intro e f ds w hh
  cases e with
  | normal => exact hh
  | _ => exact hQ _ f ds w hh
 | .rangeFunc g ps qs body, _, _, hQ, f, ds, w, h => fun a h1 h2 h3 => wpIn_mono (h a h1 h2 h3) (lift_mono hQ)
def joinQ {α : Type} (L : α → List (Nat × Value)) (I : α → World → Prop) (ds : DS) (Q : CX) : CX
 | .normal => fun f' ds' w' => ∃ x, ds' = ds ∧ agr (L x) f' ∧ I x w'
 | e => Q e
section
variable {n : Cf} {Q : CX} {f : Fr} {ds : DS} {w : World} {α : Type} {L : α → List (Nat × Value)} {I : α → World → Prop} {ds0 : DS}
theorem Cn {a : Code} {K : Fr → DS → World → Prop} (L : α → List (Nat × Value)) (I : α → World → Prop) (h1 : WC P n a (joinQ L I ds Q) f ds w) (h2 : ∀ x w' f', I x w' → K (ov (L x) f') ds w') : WC P n a (Bx K Q) f ds w := by
 refine C0 a ?_ f ds w h1
 intro e f' ds' w' hh
 cases e with
 | normal =>
  obtain ⟨x, rfl, ha, hI⟩ := hh
  have := h2 x w' f' hI
  rw [ov_of_agr ha] at this
  exact this
 | _ => exact hh
theorem A0 (x : α) (ha : agr (L x) f) (hI : I x w) : joinQ L I ds Q .normal f ds w := ⟨x, rfl, ha, hI⟩
instance : Nx (joinQ L I ds0 Q .ret f ds w) (0 = 0) (Q .ret f ds w) := ⟨fun _ h => h⟩
instance {i : Nat} : Nx (joinQ L I ds0 Q (.exit i) f ds w) (0 = 0) (Q (.exit i) f ds w) := ⟨fun _ h => h⟩
instance {c : List PanicEntry} : Nx (joinQ L I ds0 Q (.panic c) f ds w) (0 = 0) (Q (.panic c) f ds w) := ⟨fun _ h => h⟩
end
attribute [irreducible] joinQ
end Go.Proofs.YtkhhjdjmhbdjfaaGreatDoor
