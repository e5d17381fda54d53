/- The printer: the sign of a node. The printer: the pieces of a node. The printer: pieces, walked. The printer: pieces put the other way round. Rules: pointers compared. Rules: pointers compared, turned into raw pointers and back, text appended, bytes read as a string. The printer: the builder. Conditions: none. -/
import Derived.Test.YtfcgdbmoncnibaaGreatDoorZF9
import Derived.Lib.Builder
import Derived.LaidEql
import Derived.Lib.AppendStr
import Derived.Lib.UnsafeStr
import Derived.Laws.Externs

namespace Go.Proofs.YtfcgdbmoncnibaaGreatDoor
open Go.RowKit
set_option linter.unusedVariables false
theorem numT_len {n : Int} (h : n ≤ 9999) : (DJ n).length ≤ 4 := digs_len (by omega)
theorem numB_of {n : Int} (h0 : 0 ≤ n) (h1 : n ≤ 9999) : numB n = true := by simp [numB, h0, h1]
theorem signOf_ok (w : World) (s : Sty) (b o : Nat) (f : Fml) (av : Value) (hcl : Cells w b o (fcC f av)) (hs : BB f.op = some s) (hok : nodeC s f = true) (hG : GP w) :
  FnP Tryz.prog 124 [Bf s, .pointer (some ⟨b, o, none⟩)] w (fun v w' => v = AM (sgT f.op f.name f.val f.bound) ∧ Ext w w' ∧ (f.op = 3 → BS f.name = true)) (fun ch w' => ch = unp ∧ Ext w w' ∧ f.op = 3 ∧ BS f.name = false) := by
 have hsg : s.sign.length ≤ 5 := by
  rcases op_cases hs with h | h | h | h | h | h | h | h | h | h | h | h | h | h | h | h | h | h | h <;> rw [h] at hs <;> simp [BB, styL, List.lookup] at hs <;> subst hs <;> decide
 have esd : BW f.op = s := by unfold BW; rw [hs]; rfl
 simp only [nodeC, Bool.and_eq_true, decide_eq_true_eq] at hok
 obtain ⟨⟨⟨_, h1, h2⟩, h3, h4⟩, _⟩ := hok
 refine Aq Tryz.func124 rfl Tryz.ntmps124 (Nat.le_of_ble_eq_true rfl) (by kernel_rfl) ?_
 repeat refine nx rfl ?_
 (refine AA ?_; refine Bs (L := CB s) rfl (fun w1 n1 => ?_))
 have b1 := n1.blk
 have k1 := n1.keep
 have fo := k1.cell (hcl 0 _ rfl) (by simp)
 refine AB (AY rfl ?_)
 repeat refine nx rfl ?_
 (refine AA (AK rfl (AF rfl (AD rfl (AG rfl (by assumption) ?_)))))
 repeat refine nx rfl ?_
 by_cases o3 : f.op = 3
 ·have hs3 := hs
  rw [o3] at hs3
  simp [BB, styL, List.lookup] at hs3
  have hu : s.usual = 1 := by rw [← hs3]
  have hv : s.val = 9999 := by rw [← hs3]
  have hg : s.sign = [61] := by rw [← hs3]
  refine AA (Av rfl rfl (by omega) (AB (AC rfl ?_)))
  repeat refine nx rfl ?_
  by_cases hv1 : f.val = 1
  ·refine Bw (.read 0 (.read 1 (.read 2 (.read 3 (.read 4 (.read 5 (.read 6 .done))))))) BA (by kernel_rfl) (by repeat (first | exact BP | refine BD ?_ | refine Br ?_)) (fun wd kd ed => ⟨Ext wd, ?_, ?_⟩)
   ·exact Ext.refl _
   have bd := b1.keep kd (by simp)
   have fn : ∀ W, Ext wd W → W.cell? ⟨b, o + 1, none⟩ = some (AM f.name) := fun W e => ((k1.trans kd).trans e).cell (hcl 1 _ rfl) (by simp)
   have fv : ∀ W, Ext wd W → W.cell? ⟨b, o + 2, none⟩ = some (.int .i64 f.val) := fun W e => ((k1.trans kd).trans e).cell (hcl 2 _ rfl) (by simp)
   have fb : ∀ W, Ext wd W → W.cell? ⟨b, o + 3, none⟩ = some (.int .i64 f.bound) := fun W e => ((k1.trans kd).trans e).cell (hcl 3 _ rfl) (by simp)
   have g0 : ∀ W, Ext wd W → W.cell? ⟨w.heap.size, 0 + 0, none⟩ = some (AM s.sign) := fun W e => (bd.keep e (by simp)).cell rfl
   have g8 : ∀ W, Ext wd W → W.cell? ⟨w.heap.size, 0 + 8, none⟩ = some (.int .i64 (s.usual : Int)) := fun W e => (bd.keep e (by simp)).cell rfl
   refine D_R rfl rfl (fun W hW => AK rfl Z3) (D_R rfl rfl (fun W hW => AF rfl Z3) (D_R rfl rfl (fun W hW => AD rfl Z3) (D_R rfl rfl (fun W hW => AG rfl (fv W hW) Z3) (D_R rfl rfl (fun W hW => AD rfl Z3) (D_R rfl rfl (fun W hW => AG rfl (g8 W hW) Z3) (D_eqlT rfl rfl rfl rfl (by omega) (Ay ?_)))))))
   repeat refine nx rfl ?_
   have fn1 := fn _ (Ext.refl _)
   refine AA (AK rfl (AF rfl (AD rfl (AG rfl (by assumption) ?_))))
   refine AX (wname_ok _ f.name (hG.gk.ext (k1.trans kd))) rfl ?_ ?_
   rotate_left
   ·rintro ch w2 ⟨rfl, hb, rfl⟩
    repeat refine nx rfl ?_
    exact AV ⟨rfl, k1.trans kd, o3, hb⟩
   rintro v w2 ⟨rfl, hb, rfl⟩
   refine AB (AY rfl ?_)
   repeat refine nx rfl ?_
   have e : sgT f.op f.name f.val f.bound = f.name := by simp [sgT, o3, hv1]
   exact AP rfl ⟨by rw [e]; rfl, k1.trans kd, fun _ => hb⟩
  ·refine Bw (.read 0 (.read 1 (.read 2 (.read 3 (.read 4 (.read 5 (.read 6 .done))))))) BA (by kernel_rfl) (by repeat (first | exact BP | refine BD ?_ | refine Br ?_)) (fun wd kd ed => ⟨Ext wd, ?_, ?_⟩)
   ·exact Ext.refl _
   have bd := b1.keep kd (by simp)
   have fn : ∀ W, Ext wd W → W.cell? ⟨b, o + 1, none⟩ = some (AM f.name) := fun W e => ((k1.trans kd).trans e).cell (hcl 1 _ rfl) (by simp)
   have fv : ∀ W, Ext wd W → W.cell? ⟨b, o + 2, none⟩ = some (.int .i64 f.val) := fun W e => ((k1.trans kd).trans e).cell (hcl 2 _ rfl) (by simp)
   have fb : ∀ W, Ext wd W → W.cell? ⟨b, o + 3, none⟩ = some (.int .i64 f.bound) := fun W e => ((k1.trans kd).trans e).cell (hcl 3 _ rfl) (by simp)
   have g0 : ∀ W, Ext wd W → W.cell? ⟨w.heap.size, 0 + 0, none⟩ = some (AM s.sign) := fun W e => (bd.keep e (by simp)).cell rfl
   have g8 : ∀ W, Ext wd W → W.cell? ⟨w.heap.size, 0 + 8, none⟩ = some (.int .i64 (s.usual : Int)) := fun W e => (bd.keep e (by simp)).cell rfl
   refine D_R rfl rfl (fun W hW => AK rfl Z3) (D_R rfl rfl (fun W hW => AF rfl Z3) (D_R rfl rfl (fun W hW => AD rfl Z3) (D_R rfl rfl (fun W hW => AG rfl (fv W hW) Z3) (D_R rfl rfl (fun W hW => AD rfl Z3) (D_R rfl rfl (fun W hW => AG rfl (g8 W hW) Z3) (D_eqlF rfl rfl rfl rfl (by omega) (Ay ?_)))))))
   repeat first | refine nx rfl ?_ | refine nf rfl ?_
   replace k1 := k1.trans kd
   replace b1 := bd
   clear fn fv fb g0 g8 bd kd ed
   refine Bw (.read 0 (.read 1 (.read 2 (.read 3 (.read 5 (.read 6 (.read 8 (.read 9 (.read 10 (.read 11 (.alt 4 (.read 7 (.alt 12 (.read 13 (.read 14 .done)) .stop)) .stop))))))))))) BA (by kernel_rfl) (by repeat (first | exact BP | refine BD ?_ | refine Br ?_)) (fun wd kd ed => ⟨Ext wd, ?_, ?_⟩)
   ·exact Ext.refl _
   have bd := b1.keep kd (by simp)
   have fn : ∀ W, Ext wd W → W.cell? ⟨b, o + 1, none⟩ = some (AM f.name) := fun W e => ((k1.trans kd).trans e).cell (hcl 1 _ rfl) (by simp)
   have fv : ∀ W, Ext wd W → W.cell? ⟨b, o + 2, none⟩ = some (.int .i64 f.val) := fun W e => ((k1.trans kd).trans e).cell (hcl 2 _ rfl) (by simp)
   have fb : ∀ W, Ext wd W → W.cell? ⟨b, o + 3, none⟩ = some (.int .i64 f.bound) := fun W e => ((k1.trans kd).trans e).cell (hcl 3 _ rfl) (by simp)
   have g0 : ∀ W, Ext wd W → W.cell? ⟨w.heap.size, 0 + 0, none⟩ = some (AM s.sign) := fun W e => (bd.keep e (by simp)).cell rfl
   have g8 : ∀ W, Ext wd W → W.cell? ⟨w.heap.size, 0 + 8, none⟩ = some (.int .i64 (s.usual : Int)) := fun W e => (bd.keep e (by simp)).cell rfl
   refine D_R rfl rfl (fun W hW => AK rfl Z3) (D_R rfl rfl (fun W hW => AF rfl Z3) (D_R rfl rfl (fun W hW => AD rfl Z3) (D_R rfl rfl (fun W hW => AG rfl (fn W hW) Z3) (D_R rfl rfl (fun W hW => AD rfl Z3) (D_R rfl rfl (fun W hW => AG rfl (g0 W hW) Z3) (D_R rfl rfl (fun W hW => AK rfl Z3) (D_R rfl rfl (fun W hW => AF rfl Z3) (D_R rfl rfl (fun W hW => AD rfl Z3) (D_R rfl rfl (fun W hW => AG rfl (fv W hW) Z3) ?_)))))))))
   refine D_E rfl ?_
   refine AX (wname_ok wd f.name (hG.gk.ext (k1.trans kd))) rfl ?_ ?_
   rotate_left
   ·rintro ch w2 ⟨rfl, hb, rfl⟩
    repeat refine nx rfl ?_
    exact AV ⟨rfl, k1.trans kd, o3, hb⟩
   rintro v w2 ⟨rfl, hb, rfl⟩
   have hnl := (Ba hb).2.1
   refine AI ⟨Ext w2, fun _ e => e, Ext.refl _, ?_⟩
   (apply D_R rfl rfl; (intro W hW; (refine Cn rfl rfl (by (try simp); omega) ?_); exact AI ⟨rfl, rfl, rfl⟩))
   refine D_E rfl ?_
   refine AX (wnumber_ok w2 f.val (hG.ext (k1.trans kd))) rfl ?_ ?_
   rotate_left
   ·rintro ch w3 ⟨rfl, hb2, rfl⟩
    rw [numB_of h1 (by omega)] at hb2; cases hb2
   rintro v w3 ⟨rfl, _, k3⟩
   have hnn := numT_len (n := f.val) (by omega)
   refine AI ⟨Ext w3, fun _ e => k3.trans e, Ext.refl _, ?_⟩
   (apply D_R rfl rfl; (intro W hW; (refine Cn rfl rfl (by (try simp); omega) ?_); exact AI ⟨rfl, rfl, rfl⟩))
   refine D_R rfl rfl (fun W hW => AB (AY rfl Z3)) (Ay ?_)
   repeat refine nx rfl ?_
   have e : sgT f.op f.name f.val f.bound = f.name ++ s.sign ++ DJ f.val := by simp [sgT, o3, hv1, hg]
   exact AP rfl ⟨by rw [e]; rfl, (k1.trans kd).trans k3, fun _ => hb⟩
 by_cases o13 : f.op = 13 ∨ f.op = 14
 ·have hbd : s.bound = 9999 := by
   rcases o13 with h | h <;> rw [h] at hs <;> simp [BB, styL, List.lookup] at hs <;> rw [← hs]
  have fin8 : sgT f.op f.name f.val f.bound = s.sign ++ DJ f.bound ++ [93, 32] := by simp [sgT, o3, o13, esd]
  refine AA (AL rfl rfl (by omega) (AB (AC rfl ?_)))
  repeat first | refine nx rfl ?_ | refine nf rfl ?_
  rcases o13 with h13 | h14
  ·refine AA (Av rfl rfl (by omega) (AB (AC rfl ?_)))
   repeat refine nx rfl ?_
   refine Bw (.read 0 (.read 1 (.read 2 (.read 3 (.read 4 (.read 5 (.alt 6 (.read 7 (.read 8 (.read 9 .done))) .stop))))))) BA (by kernel_rfl) (by repeat (first | exact BP | refine BD ?_ | refine Br ?_)) (fun wd kd ed => ⟨Ext wd, ?_, ?_⟩)
   ·exact Ext.refl _
   have bd := b1.keep kd (by simp)
   have fn : ∀ W, Ext wd W → W.cell? ⟨b, o + 1, none⟩ = some (AM f.name) := fun W e => ((k1.trans kd).trans e).cell (hcl 1 _ rfl) (by simp)
   have fv : ∀ W, Ext wd W → W.cell? ⟨b, o + 2, none⟩ = some (.int .i64 f.val) := fun W e => ((k1.trans kd).trans e).cell (hcl 2 _ rfl) (by simp)
   have fb : ∀ W, Ext wd W → W.cell? ⟨b, o + 3, none⟩ = some (.int .i64 f.bound) := fun W e => ((k1.trans kd).trans e).cell (hcl 3 _ rfl) (by simp)
   have g0 : ∀ W, Ext wd W → W.cell? ⟨w.heap.size, 0 + 0, none⟩ = some (AM s.sign) := fun W e => (bd.keep e (by simp)).cell rfl
   have g8 : ∀ W, Ext wd W → W.cell? ⟨w.heap.size, 0 + 8, none⟩ = some (.int .i64 (s.usual : Int)) := fun W e => (bd.keep e (by simp)).cell rfl
   refine D_R rfl rfl (fun W hW => AD rfl Z3) (D_R rfl rfl (fun W hW => AG rfl (g0 W hW) Z3) (D_R rfl rfl (fun W hW => AK rfl Z3) (D_R rfl rfl (fun W hW => AF rfl Z3) (D_R rfl rfl (fun W hW => AD rfl Z3) (D_R rfl rfl (fun W hW => AG rfl (fb W hW) Z3) ?_)))))
   refine D_E rfl ?_
   refine AX (wnumber_ok wd f.bound (hG.ext (k1.trans kd))) rfl ?_ ?_
   rotate_left
   ·rintro ch w3 ⟨rfl, hb2, rfl⟩
    rw [numB_of h3 (by omega)] at hb2; cases hb2
   rintro v w3 ⟨rfl, _, k3⟩
   have hnn := numT_len (n := f.bound) (by omega)
   refine AI ⟨Ext w3, fun _ e => k3.trans e, Ext.refl _, ?_⟩
   (apply D_R rfl rfl; (intro W hW; (refine Cn rfl rfl (by (try simp); omega) ?_); exact AI ⟨rfl, rfl, rfl⟩))
   (apply D_R rfl rfl; (intro W hW; (refine Cn rfl rfl (by (try simp); omega) ?_); exact AI ⟨rfl, rfl, rfl⟩))
   refine D_R rfl rfl (fun W hW => AB (AY rfl Z3)) (Ay ?_)
   repeat refine nx rfl ?_
   exact AP rfl ⟨by rw [fin8]; rfl, (k1.trans kd).trans k3, fun h => absurd h o3⟩
  ·refine AA (AL rfl rfl (by omega) (AB (AC rfl ?_)))
   repeat first | refine nx rfl ?_ | refine nf rfl ?_
   refine AA (Av rfl rfl (by omega) (AB (AC rfl ?_)))
   repeat refine nx rfl ?_
   refine Bw (.read 0 (.read 1 (.read 2 (.read 3 (.read 4 (.read 5 (.alt 6 (.read 7 (.read 8 (.read 9 .done))) .stop))))))) BA (by kernel_rfl) (by repeat (first | exact BP | refine BD ?_ | refine Br ?_)) (fun wd kd ed => ⟨Ext wd, ?_, ?_⟩)
   ·exact Ext.refl _
   have bd := b1.keep kd (by simp)
   have fn : ∀ W, Ext wd W → W.cell? ⟨b, o + 1, none⟩ = some (AM f.name) := fun W e => ((k1.trans kd).trans e).cell (hcl 1 _ rfl) (by simp)
   have fv : ∀ W, Ext wd W → W.cell? ⟨b, o + 2, none⟩ = some (.int .i64 f.val) := fun W e => ((k1.trans kd).trans e).cell (hcl 2 _ rfl) (by simp)
   have fb : ∀ W, Ext wd W → W.cell? ⟨b, o + 3, none⟩ = some (.int .i64 f.bound) := fun W e => ((k1.trans kd).trans e).cell (hcl 3 _ rfl) (by simp)
   have g0 : ∀ W, Ext wd W → W.cell? ⟨w.heap.size, 0 + 0, none⟩ = some (AM s.sign) := fun W e => (bd.keep e (by simp)).cell rfl
   have g8 : ∀ W, Ext wd W → W.cell? ⟨w.heap.size, 0 + 8, none⟩ = some (.int .i64 (s.usual : Int)) := fun W e => (bd.keep e (by simp)).cell rfl
   refine D_R rfl rfl (fun W hW => AD rfl Z3) (D_R rfl rfl (fun W hW => AG rfl (g0 W hW) Z3) (D_R rfl rfl (fun W hW => AK rfl Z3) (D_R rfl rfl (fun W hW => AF rfl Z3) (D_R rfl rfl (fun W hW => AD rfl Z3) (D_R rfl rfl (fun W hW => AG rfl (fb W hW) Z3) ?_)))))
   refine D_E rfl ?_
   refine AX (wnumber_ok wd f.bound (hG.ext (k1.trans kd))) rfl ?_ ?_
   rotate_left
   ·rintro ch w3 ⟨rfl, hb2, rfl⟩
    rw [numB_of h3 (by omega)] at hb2; cases hb2
   rintro v w3 ⟨rfl, _, k3⟩
   have hnn := numT_len (n := f.bound) (by omega)
   refine AI ⟨Ext w3, fun _ e => k3.trans e, Ext.refl _, ?_⟩
   (apply D_R rfl rfl; (intro W hW; (refine Cn rfl rfl (by (try simp); omega) ?_); exact AI ⟨rfl, rfl, rfl⟩))
   (apply D_R rfl rfl; (intro W hW; (refine Cn rfl rfl (by (try simp); omega) ?_); exact AI ⟨rfl, rfl, rfl⟩))
   refine D_R rfl rfl (fun W hW => AB (AY rfl Z3)) (Ay ?_)
   repeat refine nx rfl ?_
   exact AP rfl ⟨by rw [fin8]; rfl, (k1.trans kd).trans k3, fun h => absurd h o3⟩
 by_cases o15 : f.op = 15
 ·have hs15 := hs
  rw [o15] at hs15
  simp [BB, styL, List.lookup] at hs15
  have hu : s.usual = 0 := by rw [← hs15]
  have hg : s.sign = [89, 32] := by rw [← hs15]
  refine AA (AL rfl rfl (by omega) (AB (AC rfl ?_)))
  repeat first | refine nx rfl ?_ | refine nf rfl ?_
  refine AA (AL rfl rfl (by omega) (AB (AC rfl ?_)))
  repeat first | refine nx rfl ?_ | refine nf rfl ?_
  refine AA (AL rfl rfl (by omega) (AB (AC rfl ?_)))
  repeat first | refine nx rfl ?_ | refine nf rfl ?_
  refine AA (Av rfl rfl (by omega) (AB (AC rfl ?_)))
  repeat refine nx rfl ?_
  by_cases hv0 : f.val = 0
  ·refine Bw (.read 0 (.read 1 (.read 2 (.read 3 (.read 4 (.read 5 (.read 6 .done))))))) BA (by kernel_rfl) (by repeat (first | exact BP | refine BD ?_ | refine Br ?_)) (fun wd kd ed => ⟨Ext wd, ?_, ?_⟩)
   ·exact Ext.refl _
   have bd := b1.keep kd (by simp)
   have fn : ∀ W, Ext wd W → W.cell? ⟨b, o + 1, none⟩ = some (AM f.name) := fun W e => ((k1.trans kd).trans e).cell (hcl 1 _ rfl) (by simp)
   have fv : ∀ W, Ext wd W → W.cell? ⟨b, o + 2, none⟩ = some (.int .i64 f.val) := fun W e => ((k1.trans kd).trans e).cell (hcl 2 _ rfl) (by simp)
   have fb : ∀ W, Ext wd W → W.cell? ⟨b, o + 3, none⟩ = some (.int .i64 f.bound) := fun W e => ((k1.trans kd).trans e).cell (hcl 3 _ rfl) (by simp)
   have g0 : ∀ W, Ext wd W → W.cell? ⟨w.heap.size, 0 + 0, none⟩ = some (AM s.sign) := fun W e => (bd.keep e (by simp)).cell rfl
   have g8 : ∀ W, Ext wd W → W.cell? ⟨w.heap.size, 0 + 8, none⟩ = some (.int .i64 (s.usual : Int)) := fun W e => (bd.keep e (by simp)).cell rfl
   refine D_R rfl rfl (fun W hW => AK rfl Z3) (D_R rfl rfl (fun W hW => AF rfl Z3) (D_R rfl rfl (fun W hW => AD rfl Z3) (D_R rfl rfl (fun W hW => AG rfl (fv W hW) Z3) (D_R rfl rfl (fun W hW => AD rfl Z3) (D_R rfl rfl (fun W hW => AG rfl (g8 W hW) Z3) (D_neqF rfl rfl rfl rfl (by omega) (Ay ?_)))))))
   repeat first | refine nx rfl ?_ | refine nf rfl ?_
   have g1 := g0 _ (Ext.refl _)
   (refine AA (AD rfl (AG rfl (Blk.cell (by assumption) (by rfl)) ?_)) <;> refine AB (AY rfl ?_))
   repeat refine nx rfl ?_
   have e : sgT f.op f.name f.val f.bound = s.sign := by simp [sgT, o15, hv0, hg]
   exact AP rfl ⟨by rw [e]; rfl, k1.trans kd, fun h => absurd h o3⟩
  ·refine Bw (.read 0 (.read 1 (.read 2 (.read 3 (.read 4 (.read 5 (.read 6 .done))))))) BA (by kernel_rfl) (by repeat (first | exact BP | refine BD ?_ | refine Br ?_)) (fun wd kd ed => ⟨Ext wd, ?_, ?_⟩)
   ·exact Ext.refl _
   have bd := b1.keep kd (by simp)
   have fn : ∀ W, Ext wd W → W.cell? ⟨b, o + 1, none⟩ = some (AM f.name) := fun W e => ((k1.trans kd).trans e).cell (hcl 1 _ rfl) (by simp)
   have fv : ∀ W, Ext wd W → W.cell? ⟨b, o + 2, none⟩ = some (.int .i64 f.val) := fun W e => ((k1.trans kd).trans e).cell (hcl 2 _ rfl) (by simp)
   have fb : ∀ W, Ext wd W → W.cell? ⟨b, o + 3, none⟩ = some (.int .i64 f.bound) := fun W e => ((k1.trans kd).trans e).cell (hcl 3 _ rfl) (by simp)
   have g0 : ∀ W, Ext wd W → W.cell? ⟨w.heap.size, 0 + 0, none⟩ = some (AM s.sign) := fun W e => (bd.keep e (by simp)).cell rfl
   have g8 : ∀ W, Ext wd W → W.cell? ⟨w.heap.size, 0 + 8, none⟩ = some (.int .i64 (s.usual : Int)) := fun W e => (bd.keep e (by simp)).cell rfl
   refine D_R rfl rfl (fun W hW => AK rfl Z3) (D_R rfl rfl (fun W hW => AF rfl Z3) (D_R rfl rfl (fun W hW => AD rfl Z3) (D_R rfl rfl (fun W hW => AG rfl (fv W hW) Z3) (D_R rfl rfl (fun W hW => AD rfl Z3) (D_R rfl rfl (fun W hW => AG rfl (g8 W hW) Z3) (D_neqT rfl rfl rfl rfl (by omega) (Ay ?_)))))))
   repeat refine nx rfl ?_
   refine AA (AB (AY rfl ?_))
   repeat refine nx rfl ?_
   have e : sgT f.op f.name f.val f.bound = [90, 32] := by simp [sgT, o15, hv0]
   exact AP rfl ⟨by rw [e]; rfl, k1.trans kd, fun h => absurd h o3⟩
 by_cases o16 : f.op = 16 ∨ f.op = 17
 ·have hvl : s.val = 9999 := by
   rcases o16 with h | h <;> rw [h] at hs <;> simp [BB, styL, List.lookup] at hs <;> rw [← hs]
  refine AA (AL rfl rfl (by omega) (AB (AC rfl ?_)))
  repeat first | refine nx rfl ?_ | refine nf rfl ?_
  refine AA (AL rfl rfl (by omega) (AB (AC rfl ?_)))
  repeat first | refine nx rfl ?_ | refine nf rfl ?_
  refine AA (AL rfl rfl (by omega) (AB (AC rfl ?_)))
  repeat first | refine nx rfl ?_ | refine nf rfl ?_
  refine AA (AL rfl rfl (by omega) (AB (AC rfl ?_)))
  repeat first | refine nx rfl ?_ | refine nf rfl ?_
  rcases o16 with h16 | h17
  ·refine AA (Av rfl rfl (by omega) (AB (AC rfl ?_)))
   repeat refine nx rfl ?_
   by_cases hvu : f.val = (s.usual : Int)
   ·refine Bw (.read 0 (.read 1 (.read 2 (.read 3 (.read 4 (.read 5 (.read 6 .done))))))) BA (by kernel_rfl) (by repeat (first | exact BP | refine BD ?_ | refine Br ?_)) (fun wd kd ed => ⟨Ext wd, ?_, ?_⟩)
    ·exact Ext.refl _
    have bd := b1.keep kd (by simp)
    have fn : ∀ W, Ext wd W → W.cell? ⟨b, o + 1, none⟩ = some (AM f.name) := fun W e => ((k1.trans kd).trans e).cell (hcl 1 _ rfl) (by simp)
    have fv : ∀ W, Ext wd W → W.cell? ⟨b, o + 2, none⟩ = some (.int .i64 f.val) := fun W e => ((k1.trans kd).trans e).cell (hcl 2 _ rfl) (by simp)
    have fb : ∀ W, Ext wd W → W.cell? ⟨b, o + 3, none⟩ = some (.int .i64 f.bound) := fun W e => ((k1.trans kd).trans e).cell (hcl 3 _ rfl) (by simp)
    have g0 : ∀ W, Ext wd W → W.cell? ⟨w.heap.size, 0 + 0, none⟩ = some (AM s.sign) := fun W e => (bd.keep e (by simp)).cell rfl
    have g8 : ∀ W, Ext wd W → W.cell? ⟨w.heap.size, 0 + 8, none⟩ = some (.int .i64 (s.usual : Int)) := fun W e => (bd.keep e (by simp)).cell rfl
    refine D_R rfl rfl (fun W hW => AK rfl Z3) (D_R rfl rfl (fun W hW => AF rfl Z3) (D_R rfl rfl (fun W hW => AD rfl Z3) (D_R rfl rfl (fun W hW => AG rfl (fv W hW) Z3) (D_R rfl rfl (fun W hW => AD rfl Z3) (D_R rfl rfl (fun W hW => AG rfl (g8 W hW) Z3) (D_eqlT rfl rfl rfl rfl (by omega) (Ay ?_)))))))
    repeat refine nx rfl ?_
    have g1 := g0 _ (Ext.refl _)
    refine AA (AD rfl (AG rfl (Blk.cell (by assumption) (by rfl)) ?_))
    refine Cn rfl rfl (by simp; omega) ?_
    refine AB (AY rfl ?_)
    repeat refine nx rfl ?_
    have e : sgT f.op f.name f.val f.bound = s.sign ++ [32] := by
     unfold sgT
     rw [esd]
     simp [h16, hvu]
    exact AP rfl ⟨by rw [e]; rfl, k1.trans kd, fun h => absurd h o3⟩
   ·refine Bw (.read 0 (.read 1 (.read 2 (.read 3 (.read 4 (.read 5 (.read 6 .done))))))) BA (by kernel_rfl) (by repeat (first | exact BP | refine BD ?_ | refine Br ?_)) (fun wd kd ed => ⟨Ext wd, ?_, ?_⟩)
    ·exact Ext.refl _
    have bd := b1.keep kd (by simp)
    have fn : ∀ W, Ext wd W → W.cell? ⟨b, o + 1, none⟩ = some (AM f.name) := fun W e => ((k1.trans kd).trans e).cell (hcl 1 _ rfl) (by simp)
    have fv : ∀ W, Ext wd W → W.cell? ⟨b, o + 2, none⟩ = some (.int .i64 f.val) := fun W e => ((k1.trans kd).trans e).cell (hcl 2 _ rfl) (by simp)
    have fb : ∀ W, Ext wd W → W.cell? ⟨b, o + 3, none⟩ = some (.int .i64 f.bound) := fun W e => ((k1.trans kd).trans e).cell (hcl 3 _ rfl) (by simp)
    have g0 : ∀ W, Ext wd W → W.cell? ⟨w.heap.size, 0 + 0, none⟩ = some (AM s.sign) := fun W e => (bd.keep e (by simp)).cell rfl
    have g8 : ∀ W, Ext wd W → W.cell? ⟨w.heap.size, 0 + 8, none⟩ = some (.int .i64 (s.usual : Int)) := fun W e => (bd.keep e (by simp)).cell rfl
    refine D_R rfl rfl (fun W hW => AK rfl Z3) (D_R rfl rfl (fun W hW => AF rfl Z3) (D_R rfl rfl (fun W hW => AD rfl Z3) (D_R rfl rfl (fun W hW => AG rfl (fv W hW) Z3) (D_R rfl rfl (fun W hW => AD rfl Z3) (D_R rfl rfl (fun W hW => AG rfl (g8 W hW) Z3) (D_eqlF rfl rfl rfl rfl (by omega) (Ay ?_)))))))
    repeat first | refine nx rfl ?_ | refine nf rfl ?_
    replace k1 := k1.trans kd
    replace b1 := bd
    clear fn fv fb g0 g8 bd kd ed
    refine Bw (.read 0 (.read 1 (.read 2 (.read 3 (.read 4 (.read 5 (.read 6 (.alt 7 (.read 8 (.read 9 (.read 10 .done))) .stop)))))))) BA (by kernel_rfl) (by repeat (first | exact BP | refine BD ?_ | refine Br ?_)) (fun wd kd ed => ⟨Ext wd, ?_, ?_⟩)
    ·exact Ext.refl _
    have bd := b1.keep kd (by simp)
    have fn : ∀ W, Ext wd W → W.cell? ⟨b, o + 1, none⟩ = some (AM f.name) := fun W e => ((k1.trans kd).trans e).cell (hcl 1 _ rfl) (by simp)
    have fv : ∀ W, Ext wd W → W.cell? ⟨b, o + 2, none⟩ = some (.int .i64 f.val) := fun W e => ((k1.trans kd).trans e).cell (hcl 2 _ rfl) (by simp)
    have fb : ∀ W, Ext wd W → W.cell? ⟨b, o + 3, none⟩ = some (.int .i64 f.bound) := fun W e => ((k1.trans kd).trans e).cell (hcl 3 _ rfl) (by simp)
    have g0 : ∀ W, Ext wd W → W.cell? ⟨w.heap.size, 0 + 0, none⟩ = some (AM s.sign) := fun W e => (bd.keep e (by simp)).cell rfl
    have g8 : ∀ W, Ext wd W → W.cell? ⟨w.heap.size, 0 + 8, none⟩ = some (.int .i64 (s.usual : Int)) := fun W e => (bd.keep e (by simp)).cell rfl
    refine D_R rfl rfl (fun W hW => AD rfl Z3) (D_R rfl rfl (fun W hW => AG rfl (g0 W hW) Z3) ?_)
    (apply D_R rfl rfl; (intro W hW; (refine Cn rfl rfl (by (try simp); omega) ?_); exact AI ⟨rfl, rfl, rfl⟩))
    refine D_R rfl rfl (fun W hW => AK rfl Z3) (D_R rfl rfl (fun W hW => AF rfl Z3) (D_R rfl rfl (fun W hW => AD rfl Z3) (D_R rfl rfl (fun W hW => AG rfl (fv W hW) Z3) ?_)))
    refine D_E rfl ?_
    refine AX (wnumber_ok wd f.val (hG.ext (k1.trans kd))) rfl ?_ ?_
    rotate_left
    ·rintro ch w3 ⟨rfl, hb2, rfl⟩
     rw [numB_of h1 (by omega)] at hb2; cases hb2
    rintro v w3 ⟨rfl, _, k3⟩
    have hnn := numT_len (n := f.val) (by omega)
    refine AI ⟨Ext w3, fun _ e => k3.trans e, Ext.refl _, ?_⟩
    (apply D_R rfl rfl; (intro W hW; (refine Cn rfl rfl (by (try simp); omega) ?_); exact AI ⟨rfl, rfl, rfl⟩))
    (apply D_R rfl rfl; (intro W hW; (refine Cn rfl rfl (by (try simp); omega) ?_); exact AI ⟨rfl, rfl, rfl⟩))
    refine D_R rfl rfl (fun W hW => AB (AY rfl Z3)) (Ay ?_)
    repeat refine nx rfl ?_
    have e : sgT f.op f.name f.val f.bound = s.sign ++ [91] ++ DJ f.val ++ [93, 32] := by
     unfold sgT
     rw [esd]
     simp [h16, hvu]
    exact AP rfl ⟨by rw [e]; rfl, (k1.trans kd).trans k3, fun h => absurd h o3⟩
  ·refine AA (AL rfl rfl (by omega) (AB (AC rfl ?_)))
   repeat first | refine nx rfl ?_ | refine nf rfl ?_
   refine AA (Av rfl rfl (by omega) (AB (AC rfl ?_)))
   repeat refine nx rfl ?_
   by_cases hvu : f.val = (s.usual : Int)
   ·refine Bw (.read 0 (.read 1 (.read 2 (.read 3 (.read 4 (.read 5 (.read 6 .done))))))) BA (by kernel_rfl) (by repeat (first | exact BP | refine BD ?_ | refine Br ?_)) (fun wd kd ed => ⟨Ext wd, ?_, ?_⟩)
    ·exact Ext.refl _
    have bd := b1.keep kd (by simp)
    have fn : ∀ W, Ext wd W → W.cell? ⟨b, o + 1, none⟩ = some (AM f.name) := fun W e => ((k1.trans kd).trans e).cell (hcl 1 _ rfl) (by simp)
    have fv : ∀ W, Ext wd W → W.cell? ⟨b, o + 2, none⟩ = some (.int .i64 f.val) := fun W e => ((k1.trans kd).trans e).cell (hcl 2 _ rfl) (by simp)
    have fb : ∀ W, Ext wd W → W.cell? ⟨b, o + 3, none⟩ = some (.int .i64 f.bound) := fun W e => ((k1.trans kd).trans e).cell (hcl 3 _ rfl) (by simp)
    have g0 : ∀ W, Ext wd W → W.cell? ⟨w.heap.size, 0 + 0, none⟩ = some (AM s.sign) := fun W e => (bd.keep e (by simp)).cell rfl
    have g8 : ∀ W, Ext wd W → W.cell? ⟨w.heap.size, 0 + 8, none⟩ = some (.int .i64 (s.usual : Int)) := fun W e => (bd.keep e (by simp)).cell rfl
    refine D_R rfl rfl (fun W hW => AK rfl Z3) (D_R rfl rfl (fun W hW => AF rfl Z3) (D_R rfl rfl (fun W hW => AD rfl Z3) (D_R rfl rfl (fun W hW => AG rfl (fv W hW) Z3) (D_R rfl rfl (fun W hW => AD rfl Z3) (D_R rfl rfl (fun W hW => AG rfl (g8 W hW) Z3) (D_eqlT rfl rfl rfl rfl (by omega) (Ay ?_)))))))
    repeat refine nx rfl ?_
    have g1 := g0 _ (Ext.refl _)
    refine AA (AD rfl (AG rfl (Blk.cell (by assumption) (by rfl)) ?_))
    refine Cn rfl rfl (by simp; omega) ?_
    refine AB (AY rfl ?_)
    repeat refine nx rfl ?_
    have e : sgT f.op f.name f.val f.bound = s.sign ++ [32] := by
     unfold sgT
     rw [esd]
     simp [h17, hvu]
    exact AP rfl ⟨by rw [e]; rfl, k1.trans kd, fun h => absurd h o3⟩
   ·refine Bw (.read 0 (.read 1 (.read 2 (.read 3 (.read 4 (.read 5 (.read 6 .done))))))) BA (by kernel_rfl) (by repeat (first | exact BP | refine BD ?_ | refine Br ?_)) (fun wd kd ed => ⟨Ext wd, ?_, ?_⟩)
    ·exact Ext.refl _
    have bd := b1.keep kd (by simp)
    have fn : ∀ W, Ext wd W → W.cell? ⟨b, o + 1, none⟩ = some (AM f.name) := fun W e => ((k1.trans kd).trans e).cell (hcl 1 _ rfl) (by simp)
    have fv : ∀ W, Ext wd W → W.cell? ⟨b, o + 2, none⟩ = some (.int .i64 f.val) := fun W e => ((k1.trans kd).trans e).cell (hcl 2 _ rfl) (by simp)
    have fb : ∀ W, Ext wd W → W.cell? ⟨b, o + 3, none⟩ = some (.int .i64 f.bound) := fun W e => ((k1.trans kd).trans e).cell (hcl 3 _ rfl) (by simp)
    have g0 : ∀ W, Ext wd W → W.cell? ⟨w.heap.size, 0 + 0, none⟩ = some (AM s.sign) := fun W e => (bd.keep e (by simp)).cell rfl
    have g8 : ∀ W, Ext wd W → W.cell? ⟨w.heap.size, 0 + 8, none⟩ = some (.int .i64 (s.usual : Int)) := fun W e => (bd.keep e (by simp)).cell rfl
    refine D_R rfl rfl (fun W hW => AK rfl Z3) (D_R rfl rfl (fun W hW => AF rfl Z3) (D_R rfl rfl (fun W hW => AD rfl Z3) (D_R rfl rfl (fun W hW => AG rfl (fv W hW) Z3) (D_R rfl rfl (fun W hW => AD rfl Z3) (D_R rfl rfl (fun W hW => AG rfl (g8 W hW) Z3) (D_eqlF rfl rfl rfl rfl (by omega) (Ay ?_)))))))
    repeat first | refine nx rfl ?_ | refine nf rfl ?_
    replace k1 := k1.trans kd
    replace b1 := bd
    clear fn fv fb g0 g8 bd kd ed
    refine Bw (.read 0 (.read 1 (.read 2 (.read 3 (.read 4 (.read 5 (.read 6 (.alt 7 (.read 8 (.read 9 (.read 10 .done))) .stop)))))))) BA (by kernel_rfl) (by repeat (first | exact BP | refine BD ?_ | refine Br ?_)) (fun wd kd ed => ⟨Ext wd, ?_, ?_⟩)
    ·exact Ext.refl _
    have bd := b1.keep kd (by simp)
    have fn : ∀ W, Ext wd W → W.cell? ⟨b, o + 1, none⟩ = some (AM f.name) := fun W e => ((k1.trans kd).trans e).cell (hcl 1 _ rfl) (by simp)
    have fv : ∀ W, Ext wd W → W.cell? ⟨b, o + 2, none⟩ = some (.int .i64 f.val) := fun W e => ((k1.trans kd).trans e).cell (hcl 2 _ rfl) (by simp)
    have fb : ∀ W, Ext wd W → W.cell? ⟨b, o + 3, none⟩ = some (.int .i64 f.bound) := fun W e => ((k1.trans kd).trans e).cell (hcl 3 _ rfl) (by simp)
    have g0 : ∀ W, Ext wd W → W.cell? ⟨w.heap.size, 0 + 0, none⟩ = some (AM s.sign) := fun W e => (bd.keep e (by simp)).cell rfl
    have g8 : ∀ W, Ext wd W → W.cell? ⟨w.heap.size, 0 + 8, none⟩ = some (.int .i64 (s.usual : Int)) := fun W e => (bd.keep e (by simp)).cell rfl
    refine D_R rfl rfl (fun W hW => AD rfl Z3) (D_R rfl rfl (fun W hW => AG rfl (g0 W hW) Z3) ?_)
    (apply D_R rfl rfl; (intro W hW; (refine Cn rfl rfl (by (try simp); omega) ?_); exact AI ⟨rfl, rfl, rfl⟩))
    refine D_R rfl rfl (fun W hW => AK rfl Z3) (D_R rfl rfl (fun W hW => AF rfl Z3) (D_R rfl rfl (fun W hW => AD rfl Z3) (D_R rfl rfl (fun W hW => AG rfl (fv W hW) Z3) ?_)))
    refine D_E rfl ?_
    refine AX (wnumber_ok wd f.val (hG.ext (k1.trans kd))) rfl ?_ ?_
    rotate_left
    ·rintro ch w3 ⟨rfl, hb2, rfl⟩
     rw [numB_of h1 (by omega)] at hb2; cases hb2
    rintro v w3 ⟨rfl, _, k3⟩
    have hnn := numT_len (n := f.val) (by omega)
    refine AI ⟨Ext w3, fun _ e => k3.trans e, Ext.refl _, ?_⟩
    (apply D_R rfl rfl; (intro W hW; (refine Cn rfl rfl (by (try simp); omega) ?_); exact AI ⟨rfl, rfl, rfl⟩))
    (apply D_R rfl rfl; (intro W hW; (refine Cn rfl rfl (by (try simp); omega) ?_); exact AI ⟨rfl, rfl, rfl⟩))
    refine D_R rfl rfl (fun W hW => AB (AY rfl Z3)) (Ay ?_)
    repeat refine nx rfl ?_
    have e : sgT f.op f.name f.val f.bound = s.sign ++ [91] ++ DJ f.val ++ [93, 32] := by
     unfold sgT
     rw [esd]
     simp [h17, hvu]
    exact AP rfl ⟨by rw [e]; rfl, (k1.trans kd).trans k3, fun h => absurd h o3⟩
 ·refine AA (AL rfl rfl (by omega) (AB (AC rfl ?_)))
  repeat first | refine nx rfl ?_ | refine nf rfl ?_
  refine AA (AL rfl rfl (by omega) (AB (AC rfl ?_)))
  repeat first | refine nx rfl ?_ | refine nf rfl ?_
  refine AA (AL rfl rfl (by omega) (AB (AC rfl ?_)))
  repeat first | refine nx rfl ?_ | refine nf rfl ?_
  refine AA (AL rfl rfl (by omega) (AB (AC rfl ?_)))
  repeat first | refine nx rfl ?_ | refine nf rfl ?_
  refine AA (AL rfl rfl (by omega) (AB (AC rfl ?_)))
  repeat first | refine nx rfl ?_ | refine nf rfl ?_
  refine AA (AL rfl rfl (by omega) (AB (AC rfl ?_)))
  repeat first | refine nx rfl ?_ | refine nf rfl ?_
  have g1 : w1.cell? ⟨w.heap.size, 0 + 0, none⟩ = some (AM s.sign) := b1.cell rfl
  (refine AA (AD rfl (AG rfl (Blk.cell (by assumption) (by rfl)) ?_)) <;> refine AB (AY rfl ?_))
  repeat refine nx rfl ?_
  have e : sgT f.op f.name f.val f.bound = s.sign := by simp [sgT, o3, o13, o15, o16, esd]
  exact AP rfl ⟨by rw [e]; rfl, k1, fun h => absurd h o3⟩
end Go.Proofs.YtfcgdbmoncnibaaGreatDoor
namespace Go.Proofs.YtfcgdbmoncnibaaGreatDoor
open Go.RowKit
set_option linter.unusedVariables false
inductive Pc where
 | txt (t : List UInt8)
 | sub (f : Fml) (n : Nat)
def subC (b o n : Nat) : List Value := [AM [], .pointer (some ⟨b, o, none⟩), .int .i64 (n : Int)]
def txtC (t : List UInt8) : List Value := [AM t, .pointer none, .int .i64 0]
def pcFits (ok : Nat → Prop) (w : World) (c : List Value) : Pc → Prop
 | .txt t => c = txtC t
 | .sub f n => ∃ b o, c = subC b o n ∧ PF ok w b o f
def pcR : Rp Pc where
 fits := pcFits
 size := 3
 len {ok w c a} h := by
  cases a with
  | txt t => have h : c = txtC t := h; subst h; rfl
  | sub f n => obtain ⟨b, o, rfl, _⟩ := h; rfl
 one {ok w c a} h := by
  cases a with
  | txt t =>
   have h : c = txtC t := h
   subst h; intro u hu; simp [txtC] at hu; rcases hu with rfl | rfl | rfl <;> rfl
  | sub f n => obtain ⟨b, o, rfl, _⟩ := h; intro u hu; simp [subC] at hu; rcases hu with rfl | rfl | rfl <;> rfl
 keep {ok X w w' c a} h k hX := by
  cases a with
  | txt t => exact h
  | sub f n => obtain ⟨b, o, e, hp⟩ := h; exact ⟨b, o, e, hp.keep k hX⟩
 lt {ok w c a} h := by
  cases a with
  | txt t => exact h
  | sub f n => obtain ⟨b, o, e, hp⟩ := h; exact ⟨b, o, e, hp.lt⟩
 mono {ok ok' w c a} h hk := by
  cases a with
  | txt t => exact h
  | sub f n => obtain ⟨b, o, e, hp⟩ := h; exact ⟨b, o, e, hp.mono hk⟩
def argP (next : Nat) (sg : List UInt8) : List Fml → List Pc
 | [] => []
 | a :: l => .txt sg :: .sub a next :: argP next sg l
def CT (first next : Nat) (sg : List UInt8) : List Fml → List Pc
 | [] => []
 | a :: l => .sub a first :: argP next sg l
theorem argP_len (next : Nat) (sg : List UInt8) : ∀ l, (argP next sg l).length = 2 * l.length
 | [] => rfl
 | a :: l => by simp [argP, argP_len next sg l]; omega
theorem argP_snoc (next : Nat) (sg : List UInt8) (a : Fml) : ∀ l, argP next sg (l ++ [a]) = argP next sg l ++ [.txt sg, .sub a next]
 | [] => rfl
 | c :: l => by simp [argP, argP_snoc next sg a l]
theorem argsP_snoc {first next : Nat} {sg : List UInt8} {a : Fml} {l : List Fml} (h : l ≠ []) : CT first next sg (l ++ [a]) = CT first next sg l ++ [.txt sg, .sub a next] := by
 cases l with
 | nil => exact absurd rfl h
 | cons c l => simp [CT, argP_snoc]
theorem argsP_len (first next : Nat) (sg : List UInt8) (l : List Fml) : (CT first next sg l).length ≤ 2 * l.length := by
 cases l with
 | nil => simp [CT]
 | cons a l => simp [CT, argP_len]; omega
def Cq (s : Sty) (n : Nat) : List Pc := if s.level < n then [.txt [40]] else []
def C2 (s : Sty) (n : Nat) : List Pc := if s.level < n then [.txt [41]] else []
def CP (sg : List UInt8) (k : Nat) : List Pc := if k < 2 then [.txt sg] else []
def pcs (s : Sty) (n : Nat) (f : Fml) : List Pc :=
 Cq s n ++ CP (sgT f.op f.name f.val f.bound) f.args.length ++ CT s.first s.next (sgT f.op f.name f.val f.bound) f.args ++ C2 s n
structure PS (C B : Nat) (v : Value) (L : List (List Value)) (ps : List Pc) (W : World) : Prop where
 own : W.ownsRow B 125 3 v ps.length L.flatten
 rs : RsAt pcR (fun b => b < C) W L ps
 le : C ≤ B
theorem PS.ext {C B : Nat} {v : Value} {L : List (List Value)} {ps : List Pc} {W W' : World} (h : PS C B v L ps W) (k : Ext W W') : PS C B v L ps W' := ⟨B7 h.own k, h.rs.ext k, h.le⟩
theorem PS.app {C B : Nat} {v v2 : Value} {L M : List (List Value)} {ps qs : List Pc} {W1 W2 : World} (h : PS C B v L ps W1) (a : Apd W1 W2 B 125 3 v v2 (ps.length + qs.length) (L.flatten ++ M.flatten)) (hq : RsAt pcR (fun b => b < C) W1 M qs) : PS C B v2 (L ++ M) (ps ++ qs) W2 := by
 have hX : ∀ b, b < C → b ∉ v.ownBlock.toList := fun b hb hx => by
  have := (Bl h.own (Option.mem_toList.1 hx)).1; have := h.le; omega
 refine ⟨?_, (h.rs.keep a.keep hX).app (hq.keep a.keep hX), h.le⟩
 rw [List.length_append, List.flatten_append]
 exact a.own
theorem PS.nil {C B : Nat} (h : C ≤ B) (W : World) : PS C B (.slice none 0 0) [] [] W := ⟨⟨by simp, .inl ⟨rfl, rfl⟩⟩, RsAt.nil, h⟩
theorem txt_fits (ok : Nat → Prop) (w : World) (t : List UInt8) : RsAt pcR ok w [txtC t] [.txt t] := RsAt.one (R := pcR) (a := .txt t) rfl
theorem PS.form {C B : Nat} {v : Value} {L : List (List Value)} {ps : List Pc} {W : World} (h : PS C B v L ps W) : ∃ a c, v = .slice a ps.length c := by
 rcases h.own.2 with ⟨rfl, h0⟩ | ⟨g, cap, cur, rfl, _⟩
 ·exact ⟨none, 0, by rw [h0]⟩
 ·exact ⟨_, _, rfl⟩
def outP : Pc → List UInt8
 | .txt t => t
 | .sub f n => prF n f
theorem out_argP (next : Nat) (sg : List UInt8) : ∀ l, (argP next sg l).flatMap outP = prR next sg l
 | [] => by simp [argP, prR]
 | a :: l => by simp [argP, prR, outP, out_argP next sg l]
theorem out_pcs {f : Fml} {s : Sty} (hs : BB f.op = some s) (n : Nat) : (pcs s n f).flatMap outP = prF n f := by
 have esd : BW f.op = s := by unfold BW; rw [hs]; rfl
 cases f with
 | mk op nm v b args =>
  have esd : BW op = s := esd
  simp only [prF, esd]
  have hA : (CP (sgT op nm v b) args.length ++ CT s.first s.next (sgT op nm v b) args).flatMap outP = prA s.first s.next (sgT op nm v b) args := by
   cases args with
   | nil => simp [CP, CT, prA, outP]
   | cons a l =>
    cases l with
    | nil => simp [CP, CT, argP, prA, prR, outP]
    | cons c l =>
     have h2 : ¬ (l.length + 1 + 1 < 2) := by omega
     simp [CP, CT, prA, outP, out_argP, h2]
  have e : pcs s n (.mk op nm v b args) = Cq s n ++ (CP (sgT op nm v b) args.length ++ CT s.first s.next (sgT op nm v b) args) ++ C2 s n := by
   show Cq s n ++ CP (sgT op nm v b) args.length ++ CT s.first s.next (sgT op nm v b) args ++ C2 s n = _
   simp
  rw [e, List.flatMap_append, List.flatMap_append, hA]
  by_cases hl : s.level < n
  ·simp [Cq, C2, hl, wrapT, outP]
  ·simp [Cq, C2, hl, wrapT]
end Go.Proofs.YtfcgdbmoncnibaaGreatDoor
namespace Go.Proofs.YtfcgdbmoncnibaaGreatDoor
open Go.RowKit
set_option linter.unusedVariables false
theorem split_node {f : Fml} {s : Sty} (hs : BB f.op = some s) : Bq f.op f.name f.val f.bound f.args.length = (nodeC s f && (!decide (f.op = 3) || BS f.name)) := by
 unfold Bq nodeC
 rw [hs]
 by_cases h3 : f.op = 3
 ·simp only [h3, if_true, decide_true, Bool.not_true, Bool.false_or, Bool.true_or, Bool.and_true]
  congr 1
  rw [Bool.eq_iff_iff]
  simp only [Bool.and_eq_true, decide_eq_true_eq]
  constructor
  ·rintro ⟨a, b, c, d, e, g⟩; exact ⟨⟨⟨a, b⟩, c, d⟩, e, g⟩
  ·rintro ⟨⟨⟨a, b⟩, c, d⟩, e, g⟩; exact ⟨a, b, c, d, e, g⟩
 ·simp only [h3, if_false, decide_false, Bool.not_false, Bool.false_or, Bool.true_or, Bool.and_true]
  rw [Bool.eq_iff_iff]
  simp only [Bool.and_eq_true, decide_eq_true_eq]
  constructor
  ·rintro ⟨⟨a, b, c, d, e, g⟩, k⟩; exact ⟨⟨⟨⟨a, b⟩, c, d⟩, e, g⟩, k⟩
  ·rintro ⟨⟨⟨⟨a, b⟩, c, d⟩, e, g⟩, k⟩; exact ⟨⟨a, b, c, d, e, g⟩, k⟩
set_option maxHeartbeats 3200000 in
theorem pieces_ok (w : World) (C : Nat) (hC : C ≤ w.heap.size) (s : Sty) (b o n : Nat) (f : Fml) (hf : PF (fun b => b < C) w b o f) (hs : BB f.op = some s) (hn : n ≤ 9) (hk : f.args.length ≤ 1000000) (hG : GP w) :
  FnP Tryz.prog 77 [Bf s, .pointer (some ⟨b, o, none⟩), .int .i64 (n : Int)] w
   (fun v w' => Ext w w' ∧ Bq f.op f.name f.val f.bound f.args.length = true ∧ ∃ L B, w.heap.size ≤ B ∧ PS C B v L (pcs s n f) w')
   (fun ch w' => ch = unp ∧ Ext w w' ∧ Bq f.op f.name f.val f.bound f.args.length = false) := by
 obtain ⟨_, a, c, LA, hcl, hSA, hFA⟩ := hf.form
 have hsg : (sgT f.op f.name f.val f.bound).length ≤ 1000000 ∨ True := .inr trivial
 refine Aq Tryz.func77 rfl Tryz.ntmps77 (Nat.le_of_ble_eq_true rfl) (by kernel_rfl) ?_
 repeat refine nx rfl ?_
 (refine AA ?_; refine Bs (L := CB s) rfl (fun w1 n1 => ?_))
 have b1 := n1.blk
 have k1 := n1.keep
 ((refine AB ?_; refine Ah rfl ?_))
 repeat refine nx rfl ?_
 (refine AA ?_ <;> refine AW rfl (by assumption) (by rfl) ?_ <;> refine AK rfl ?_)
 refine AX (check_ok w1 s b o f a c (hcl.keep k1 (by simp))) rfl ?_ ?_
 rotate_left
 ·rintro ch w2 ⟨rfl, k2, hb⟩
  repeat refine nx rfl ?_
  exact AV ⟨rfl, k1.trans k2, by rw [split_node hs, hb]; rfl⟩
 rintro _ w2 ⟨rfl, k2, hc2⟩
 repeat refine nx rfl ?_
 have b2 := b1.keep k2 (by simp)
 have k12 := k2
 have z1 := n1.size
 replace k2 := k1.trans k2
 have z2 := k2.size
 refine AA (AB (Ah rfl ?_))
 repeat refine nx rfl ?_
 have l1 : w2.cell? ⟨w.heap.size, 0 + 1, none⟩ = some (.int .i64 (s.level : Int)) := b2.cell rfl
 refine CV (α := Value × List (List Value)) (fun x => [(1, .pointer (some ⟨b, o, none⟩)), (2, .int .i64 (n : Int)), (3, .pointer (some ⟨w.heap.size, 0, none⟩)), (7, x.1), (16, .bool (decide (s.level < n)))]) (fun x W => x = (.slice none 0 0, []) ∧ w2 = W) ?_ ?_
 ·by_cases hl : s.level < n
  ·rw [decide_eq_true hl]
   (refine AA (AD rfl ?_) <;> refine AG rfl (Blk.cell (by assumption) (by rfl)) ?_ <;> refine AH rfl ?_ <;> refine BM rfl rfl (by omega) ?_ <;> refine AI ?_)
   exact Ar (_, _) ⟨rfl, rfl, rfl, rfl, rfl, trivial⟩ ⟨rfl, rfl⟩
  ·rw [decide_eq_false hl]
   (refine AA (AD rfl ?_) <;> refine AG rfl (Blk.cell (by assumption) (by rfl)) ?_ <;> refine AH rfl ?_ <;> refine BN rfl rfl (by omega) ?_ <;> refine AI ?_)
   exact Ar (_, _) ⟨rfl, rfl, rfl, rfl, rfl, trivial⟩ ⟨rfl, rfl⟩
 rintro _ _ f3 ⟨rfl, rfl⟩
 refine CV (α := Value × List (List Value)) (fun x => [(1, .pointer (some ⟨b, o, none⟩)), (2, .int .i64 (n : Int)), (3, .pointer (some ⟨w.heap.size, 0, none⟩)), (7, x.1)]) (fun x W => Ext w1 W ∧ PS C w1.heap.size x.1 x.2 (Cq s n) W) ?_ ?_
 ·by_cases hl : s.level < n
  ·rw [decide_eq_true hl]
   repeat refine nx rfl ?_
   (refine AA (Ah rfl ?_) <;> refine Ac (by rfl) (by rfl) ?_)
   have hlp : ([] : List Pc).length = 0 := rfl
   refine AT (out := txtC [40]) rfl (by omega) (by kernel_rfl) (fun w3 n3 => ?_)
   have rA := (n3).own (n := 1) (size := 3) rfl (by decide) (Nat.le_refl _)
   have hoA := (PS.nil (Nat.le_trans hC n1.keep.size) w2).ext (n3).keep
   have zA := (n3).size
   refine CU (ok := BH) (v := .slice none 0 0) rfl rfl hoA.own (BF rA fun _ _ => trivial) (by omega) rfl rfl (by intro y hy; simp [txtC, subC] at hy; rcases hy with rfl | rfl | rfl | rfl | rfl | rfl <;> rfl) (by omega) (by omega) (by omega) (fun v3 w4 aA => ?_)
   have keA : Ext w1 w4 := ((k12).trans (n3).keep).keep aA.keep (fun y hy => (Bl hoA.own (Option.mem_toList.1 hy)).1)
   ((refine AB ?_; refine Ax ?_))
   repeat refine nx rfl ?_
   refine Ar (v3, [] ++ [txtC [40]]) ⟨rfl, rfl, rfl, rfl, trivial⟩ ⟨keA, ?_⟩
   rw [Cq, if_pos hl]
   exact hoA.app (qs := [.txt [40]]) (M := [txtC [40]]) (by simpa using aA) (txt_fits _ _ _)
  ·rw [decide_eq_false hl]
   repeat first | refine nx rfl ?_ | refine nf rfl ?_
   refine Ar (_, []) ⟨rfl, rfl, rfl, rfl, trivial⟩ ⟨k12, ?_⟩
   rw [Cq, if_neg hl]
   exact PS.nil (Nat.le_trans hC n1.keep.size) _
 rintro ⟨v, L⟩ w5 f5 ⟨k5, hP⟩
 simp only at hP ⊢
 repeat refine nx rfl ?_
 have bx : ∀ W, Ext w1 W → Blk W w.heap.size 129 (CB s) := fun W e => b1.keep e (by simp)
 have b5 := bx w5 k5
 (refine AA ?_ <;> refine AW rfl (by assumption) (by rfl) ?_ <;> refine AK rfl ?_)
 refine AX (signOf_ok w5 s b o f _ (hcl.keep (k1.trans k5) (by simp)) hs hc2 (hG.ext (k1.trans k5))) rfl ?_ ?_
 rotate_left
 ·rintro ch w6 ⟨rfl, k6, h3, hb⟩
  repeat refine nx rfl ?_
  exact AV ⟨rfl, (k1.trans k5).trans k6, by rw [split_node hs, hc2]; simp [h3, hb]⟩
 rintro _ w6 ⟨rfl, k6, hn3⟩
 have hnode : Bq f.op f.name f.val f.bound f.args.length = true := by
  rw [split_node hs, hc2]
  by_cases h3 : f.op = 3
  ·simp [hn3 h3]
  ·simp [h3]
 ((refine AB ?_; refine AY rfl ?_))
 repeat refine nx rfl ?_
 have k16 : Ext w1 w6 := k5.trans k6
 have z16 := k16.size
 replace hP := hP.ext k6
 clear k5 k6 b5
 generalize hsgg : sgT f.op f.name f.val f.bound = sg
 have fa : ∀ W, Ext w1 W → W.cell? ⟨b, o + 4, none⟩ = some (.slice a f.args.length c) := fun W e => e.cell (k1.cell (hcl 4 _ rfl) (by simp)) (by simp)
 have fa6 := fa w6 k16
 have hop : (Cq s n).length ≤ 1 := by unfold Cq; split <;> simp
 refine CV (α := Unit) (fun _ => [(1, .pointer (some ⟨b, o, none⟩)), (2, .int .i64 (n : Int)), (3, .pointer (some ⟨w.heap.size, 0, none⟩)), (7, v), (8, AM sg), (29, .bool (decide (f.args.length < 2)))]) (fun _ W => w6 = W) ?_ ?_
 ·by_cases hl : f.args.length < 2
  ·rw [decide_eq_true hl]
   (refine AA (AK rfl (AF rfl (AD rfl ?_))) <;> refine AG rfl (by assumption) ?_ <;> refine As rfl ?_ <;> refine BM rfl rfl (by omega) ?_ <;> refine AI ?_)
   exact Ar () ⟨rfl, rfl, rfl, rfl, rfl, rfl, trivial⟩ rfl
  ·rw [decide_eq_false hl]
   (refine AA (AK rfl (AF rfl (AD rfl ?_))) <;> refine AG rfl (by assumption) ?_ <;> refine As rfl ?_ <;> refine BN rfl rfl (by omega) ?_ <;> refine AI ?_)
   exact Ar () ⟨rfl, rfl, rfl, rfl, rfl, rfl, trivial⟩ rfl
 rintro _ _ f6 rfl
 refine CV (α := Value × List (List Value)) (fun x => [(1, .pointer (some ⟨b, o, none⟩)), (2, .int .i64 (n : Int)), (3, .pointer (some ⟨w.heap.size, 0, none⟩)), (7, x.1), (8, AM sg)]) (fun x W => Ext w1 W ∧ PS C w1.heap.size x.1 x.2 (Cq s n ++ CP sg f.args.length) W) ?_ ?_
 ·by_cases hl : f.args.length < 2
  ·rw [decide_eq_true hl]
   repeat refine nx rfl ?_
   (refine AA (Ax (AY rfl ?_)) <;> refine Ac (by rfl) (by rfl) ?_)
   refine AT (out := txtC sg) rfl (by omega) (by kernel_rfl) (fun w7 n7 => ?_)
   have rA := (n7).own (n := 1) (size := 3) rfl (by decide) (Nat.le_refl _)
   have hoA := (hP).ext (n7).keep
   have zA := (n7).size
   refine CU (ok := BH) (v := v) rfl rfl hoA.own (BF rA fun _ _ => trivial) (by omega) rfl rfl (by intro y hy; simp [txtC, subC] at hy; rcases hy with rfl | rfl | rfl | rfl | rfl | rfl <;> rfl) (by omega) (by omega) (by omega) (fun v7 w8 aA => ?_)
   have keA : Ext w1 w8 := ((k16).trans (n7).keep).keep aA.keep (fun y hy => (Bl hoA.own (Option.mem_toList.1 hy)).1)
   ((refine AB ?_; refine Ax ?_))
   repeat refine nx rfl ?_
   refine Ar (v7, L ++ [txtC sg]) ⟨rfl, rfl, rfl, rfl, rfl, trivial⟩ ⟨keA, ?_⟩
   rw [CP, if_pos hl]
   exact hoA.app (qs := [.txt sg]) (M := [txtC sg]) (by simpa using aA) (txt_fits _ _ _)
  ·rw [decide_eq_false hl]
   repeat first | refine nx rfl ?_ | refine nf rfl ?_
   refine Ar (v, L) ⟨rfl, rfl, rfl, rfl, rfl, trivial⟩ ⟨k16, ?_⟩
   rw [CP, if_neg hl, List.append_nil]
   exact hP
 clear hP k16 fa6
 rintro ⟨v0, L0⟩ w7 f7 ⟨k7, hP7⟩
 simp only at hP7 ⊢
 repeat refine nx rfl ?_
 have fa7 := fa w7 k7
 (refine AA (AK rfl (AF rfl (AD rfl ?_))) <;> refine AG rfl (by assumption) ?_ <;> refine As rfl (AH rfl ?_))
 repeat refine nx rfl ?_
 have hhl : (Cq s n ++ CP sg f.args.length).length ≤ 2 := by
  rw [List.length_append]
  have : (CP sg f.args.length).length ≤ 1 := by unfold CP; split <;> simp
  omega
 refine BY (α := Nat × Value × List (List Value)) (fun x => [(1, .pointer (some ⟨b, o, none⟩)), (2, .int .i64 (n : Int)), (3, .pointer (some ⟨w.heap.size, 0, none⟩)), (7, x.2.1), (8, AM sg), (39, .int .i64 (f.args.length : Int)), (40, .int .i64 (x.1 : Int))])
  (fun x W => x.1 ≤ f.args.length ∧ Ext w1 W ∧ PS C w1.heap.size x.2.1 x.2.2 (Cq s n ++ CP sg f.args.length ++ CT s.first s.next sg (f.args.take x.1)) W) (fun x => f.args.length - x.1)
  (0, v0, L0) ⟨rfl, rfl, rfl, rfl, rfl, rfl, rfl, trivial⟩ ⟨by simp, k7, by simp only [List.take_zero, CT, List.append_nil]; exact hP7⟩ ?_
 clear hP7 k7 fa7
 rintro ⟨k, v8, L8⟩ w8 f8 ⟨hk8, k8, hP8⟩
 simp only at hk8 k8 hP8 ⊢
 repeat refine nx rfl ?_
 have z8 := k8.size
 by_cases hlt : k < f.args.length
 ·obtain ⟨x, hx⟩ : ∃ x, f.args[k]? = some x := ⟨_, List.getElem?_eq_getElem hlt⟩
  obtain ⟨cx, hcx⟩ : ∃ cx, LA[k]? = some cx := ⟨_, List.getElem?_eq_getElem (by rw [hFA.1]; exact hlt)⟩
  obtain ⟨ba, oa, rfl, hba, hcellx⟩ := hSA.fml hFA.2.1 hcx hlt
  have hpf : ∀ W, Ext w W → PF (fun b => b < C) W ba (oa + k * 5) x := fun W e => ⟨hba, cx, hFA.2.1 cx (List.mem_of_getElem? hcx), hcellx.keep e (by simp), (hFA.2.2 k cx x hcx hx).ext e⟩
  have htk : f.args.take (k + 1) = f.args.take k ++ [x] := by rw [List.take_add_one, hx]; rfl
  have hal := argsP_len s.first s.next sg (f.args.take k)
  have htl : (f.args.take k).length = k := by simp; omega
  have hll : (Cq s n ++ CP sg f.args.length ++ CT s.first s.next sg (f.args.take k)).length ≤ 2 + 2 * k := by rw [List.length_append]; omega
  have g2 : ∀ W, Ext w1 W → W.cell? ⟨w.heap.size, 0 + 2, none⟩ = some (.int .i64 (s.first : Int)) := fun W e => (bx W e).cell rfl
  have g3 : ∀ W, Ext w1 W → W.cell? ⟨w.heap.size, 0 + 3, none⟩ = some (.int .i64 (s.next : Int)) := fun W e => (bx W e).cell rfl
  (refine AA ?_ <;> refine BM rfl rfl (by omega) ?_)
  repeat refine nx rfl ?_
  refine AA (AH rfl (AB (AH rfl ?_)))
  repeat refine nx rfl ?_
  by_cases hk0 : 0 < k
  ·(refine AA (AH rfl ?_) <;> refine W_gtrT rfl rfl (by omega) ?_)
   repeat refine nx rfl ?_
   refine A7 (.read 0 (.read 1 (.read 2 (.read 3 (.read 4 (.read 5 (.read 6 (.read 7 (.read 8 (.read 9 (.read 10 (.read 11 (.alt 12 (.alt 13 (.read 14 .done) .stop) .stop))))))))))))) BA (by kernel_rfl) (fun wd kd ed => ⟨Ext w1, ?_, ?_⟩)
   ·exact k8.trans kd
   have hPd := hP8.ext kd
   have kw := k8.trans kd
   have zd := kw.size
   ((apply D_R rfl rfl; (intro W hW; refine Ax ?_; exact AI ⟨rfl, rfl, rfl⟩)) <;> (apply D_R rfl rfl; (intro W hW; refine AY rfl ?_; exact AI ⟨rfl, rfl, rfl⟩)) <;> (apply D_R rfl rfl; (intro W hW; refine Ac (by rfl) (by rfl) ?_; exact AI ⟨rfl, rfl, rfl⟩)) <;> (apply D_R rfl rfl; (intro W hW; refine AK rfl ?_; exact AI ⟨rfl, rfl, rfl⟩)) <;> (apply D_R rfl rfl; (intro W hW; refine AF rfl ?_; exact AI ⟨rfl, rfl, rfl⟩)) <;> (apply D_R rfl rfl; (intro W hW; refine AD rfl ?_; exact AI ⟨rfl, rfl, rfl⟩)) <;> (apply D_R rfl rfl; (intro W hW; refine AG rfl (fa W hW) ?_; exact AI ⟨rfl, rfl, rfl⟩)) <;> (apply D_R rfl rfl; (intro W hW; refine AH rfl ?_; exact AI ⟨rfl, rfl, rfl⟩)) <;> (apply D_R rfl rfl; (intro W hW; refine CH rfl rfl rfl (by omega) ?_; exact AI ⟨rfl, rfl, rfl⟩)) <;> (apply D_R rfl rfl; (intro W hW; refine AD rfl ?_; exact AI ⟨rfl, rfl, rfl⟩)) <;> (apply D_R rfl rfl; (intro W hW; refine AG rfl (g3 W hW) ?_; exact AI ⟨rfl, rfl, rfl⟩)) <;> (apply D_R rfl rfl; (intro W hW; refine Ac (by rfl) (by rfl) ?_; exact AI ⟨rfl, rfl, rfl⟩)))
   refine D_E rfl ?_
   refine AT (out := txtC sg ++ subC ba (oa + k * 5) s.next) rfl (by omega) (by kernel_rfl) (fun wA nA => ?_)
   have rA := nA.own (n := 2) (size := 3) rfl (by decide) (Nat.le_refl _)
   have hoA := hPd.ext nA.keep
   have zA := nA.size
   refine AI ⟨Ext w1, fun _ e => e, kw.trans nA.keep, ?_⟩
   refine D_E rfl ?_
   refine CU (ok := BH) (v := v8) rfl rfl hoA.own (BF rA fun _ _ => trivial) (by omega) rfl rfl (by intro y hy; simp [txtC, subC] at hy; rcases hy with rfl | rfl | rfl | rfl | rfl | rfl <;> rfl) (by omega) (by omega) (by omega) (fun vB wB aA => ?_)
   have keA : Ext w1 wB := (kw.trans nA.keep).keep aA.keep (fun y hy => (Bl hoA.own (Option.mem_toList.1 hy)).1)
   refine AI ⟨Ext w1, fun _ e => e, keA, ?_⟩
   ((apply D_R rfl rfl; (intro W hW; (refine AB ?_; refine Ax ?_); exact AI ⟨rfl, rfl, rfl⟩)) <;> refine Ay ?_)
   repeat refine nx rfl ?_
   (refine AA ?_ <;> refine BR rfl rfl (by first | exact Al (by omega) (by omega) | exact At (by omega) (by omega) | exact Am (by omega) (by omega)) ?_ <;> refine AH rfl ?_)
   repeat refine nx rfl ?_
   refine ⟨(k + 1, vB, L8 ++ [txtC sg, subC ba (oa + k * 5) s.next]), ⟨rfl, ⟨rfl, rfl, rfl, rfl, rfl, rfl, ?_, trivial⟩, ⟨by simp only; omega, keA, ?_⟩⟩, by simp only; omega⟩
   ·show Value.int .i64 ((k : Int) + 1) = _
    rw [Int.natCast_add]; rfl
   ·simp only
    have hne : f.args.take k ≠ [] := by
     intro h0
     rw [h0] at htl; simp at htl; omega
    rw [htk, argsP_snoc hne, ← List.append_assoc]
    refine hoA.app (qs := [.txt sg, .sub x s.next]) (M := [txtC sg, subC ba (oa + k * 5) s.next]) (by simpa using aA) ?_
    exact (txt_fits _ _ _).snoc (a := Pc.sub x s.next) ⟨ba, oa + k * 5, rfl, hpf _ (k1.trans (kw.trans nA.keep))⟩
  ·have hk00 : k = 0 := by omega
   subst hk00
   (refine AA (AH rfl ?_) <;> refine W_gtrF rfl rfl (by omega) ?_)
   repeat first | refine nx rfl ?_ | refine nf rfl ?_
   refine A7 (.read 0 (.read 1 (.read 2 (.read 3 (.read 4 (.read 5 (.read 6 (.read 7 (.read 8 (.read 9 (.alt 10 (.alt 11 (.read 12 .done) .stop) .stop))))))))))) BA (by kernel_rfl) (fun wd kd ed => ⟨Ext w1, ?_, ?_⟩)
   ·exact k8.trans kd
   have hPd := hP8.ext kd
   have kw := k8.trans kd
   have zd := kw.size
   ((apply D_R rfl rfl; (intro W hW; refine Ax ?_; exact AI ⟨rfl, rfl, rfl⟩)) <;> (apply D_R rfl rfl; (intro W hW; refine AK rfl ?_; exact AI ⟨rfl, rfl, rfl⟩)) <;> (apply D_R rfl rfl; (intro W hW; refine AF rfl ?_; exact AI ⟨rfl, rfl, rfl⟩)) <;> (apply D_R rfl rfl; (intro W hW; refine AD rfl ?_; exact AI ⟨rfl, rfl, rfl⟩)) <;> (apply D_R rfl rfl; (intro W hW; refine AG rfl (fa W hW) ?_; exact AI ⟨rfl, rfl, rfl⟩)) <;> (apply D_R rfl rfl; (intro W hW; refine AH rfl ?_; exact AI ⟨rfl, rfl, rfl⟩)) <;> (apply D_R rfl rfl; (intro W hW; refine CH rfl rfl rfl (by omega) ?_; exact AI ⟨rfl, rfl, rfl⟩)) <;> (apply D_R rfl rfl; (intro W hW; refine AD rfl ?_; exact AI ⟨rfl, rfl, rfl⟩)) <;> (apply D_R rfl rfl; (intro W hW; refine AG rfl (g2 W hW) ?_; exact AI ⟨rfl, rfl, rfl⟩)) <;> (apply D_R rfl rfl; (intro W hW; refine Ac (by rfl) (by rfl) ?_; exact AI ⟨rfl, rfl, rfl⟩)))
   refine D_E rfl ?_
   refine AT (out := subC ba (oa + 0 * 5) s.first) rfl (by omega) (by kernel_rfl) (fun wA nA => ?_)
   have rA := nA.own (n := 1) (size := 3) rfl (by decide) (Nat.le_refl _)
   have hoA := hPd.ext nA.keep
   have zA := nA.size
   refine AI ⟨Ext w1, fun _ e => e, kw.trans nA.keep, ?_⟩
   refine D_E rfl ?_
   refine CU (ok := BH) (v := v8) rfl rfl hoA.own (BF rA fun _ _ => trivial) (by omega) rfl rfl (by intro y hy; simp [txtC, subC] at hy; rcases hy with rfl | rfl | rfl <;> rfl) (by omega) (by omega) (by omega) (fun vB wB aA => ?_)
   have keA : Ext w1 wB := (kw.trans nA.keep).keep aA.keep (fun y hy => (Bl hoA.own (Option.mem_toList.1 hy)).1)
   refine AI ⟨Ext w1, fun _ e => e, keA, ?_⟩
   ((apply D_R rfl rfl; (intro W hW; (refine AB ?_; refine Ax ?_); exact AI ⟨rfl, rfl, rfl⟩)) <;> refine Ay ?_)
   repeat refine nx rfl ?_
   (refine AA ?_ <;> refine BR rfl rfl (by first | exact Al (by omega) (by omega) | exact At (by omega) (by omega) | exact Am (by omega) (by omega)) ?_ <;> refine AH rfl ?_)
   repeat refine nx rfl ?_
   refine ⟨(0 + 1, vB, L8 ++ [subC ba (oa + 0 * 5) s.first]), ⟨rfl, ⟨rfl, rfl, rfl, rfl, rfl, rfl, rfl, trivial⟩, ⟨by simp only; omega, keA, ?_⟩⟩, by simp only; omega⟩
   simp only
   rw [htk, List.take_zero, List.nil_append]
   rw [List.take_zero] at hoA aA
   simp only [CT, argP, List.append_nil] at hoA aA ⊢
   refine hoA.app (qs := [.sub x s.first]) (M := [subC ba (oa + 0 * 5) s.first]) (by simpa using aA) ?_
   exact RsAt.one (R := pcR) (a := Pc.sub x s.first) ⟨ba, oa + 0 * 5, rfl, hpf _ (k1.trans (kw.trans nA.keep))⟩
 ·have hkk : k = f.args.length := by omega
  subst hkk
  rw [List.take_length] at hP8
  have hal := argsP_len s.first s.next sg f.args
  have hll : (Cq s n ++ CP sg f.args.length ++ CT s.first s.next sg f.args).length ≤ 2 + 2 * f.args.length := by rw [List.length_append]; omega
  (refine AA ?_ <;> refine BN rfl rfl (by omega) ?_)
  repeat first | refine nx rfl ?_ | refine nf rfl ?_
  have l8 : w8.cell? ⟨w.heap.size, 0 + 1, none⟩ = some (.int .i64 (s.level : Int)) := (bx w8 k8).cell rfl
  have epc : pcs s n f = Cq s n ++ CP sg f.args.length ++ CT s.first s.next sg f.args ++ C2 s n := by unfold pcs; rw [hsgg]
  by_cases hl : s.level < n
  ·(refine AA (AD rfl ?_) <;> refine AG rfl (by assumption) ?_ <;> refine AH rfl ?_ <;> refine BM rfl rfl (by omega) ?_)
   repeat refine nx rfl ?_
   (refine AA (Ax ?_) <;> refine Ac (by rfl) (by rfl) ?_)
   refine AT (out := txtC [41]) rfl (by omega) (by kernel_rfl) (fun w9 n9 => ?_)
   have rA := (n9).own (n := 1) (size := 3) rfl (by decide) (Nat.le_refl _)
   have hoA := (hP8).ext (n9).keep
   have zA := (n9).size
   refine CU (ok := BH) (v := v8) rfl rfl hoA.own (BF rA fun _ _ => trivial) (by omega) rfl rfl (by intro y hy; simp [txtC, subC] at hy; rcases hy with rfl | rfl | rfl | rfl | rfl | rfl <;> rfl) (by omega) (by omega) (by omega) (fun v9 w10 aA => ?_)
   have keA : Ext w1 w10 := ((k8).trans (n9).keep).keep aA.keep (fun y hy => (Bl hoA.own (Option.mem_toList.1 hy)).1)
   ((refine AB ?_; refine Ax ?_))
   repeat refine nx rfl ?_
   refine AA (Ax (AB (Ax ?_)))
   repeat refine nx rfl ?_
   have hfin : PS C w1.heap.size v9 (L8 ++ [txtC [41]]) (pcs s n f) w10 := by
    rw [epc, C2, if_pos hl]
    exact hoA.app (qs := [.txt [41]]) (M := [txtC [41]]) (by simpa using aA) (txt_fits _ _ _)
   exact AP rfl ⟨k1.trans keA, hnode, _, _, n1.keep.size, hfin⟩
  ·(refine AA (AD rfl ?_) <;> refine AG rfl (by assumption) ?_ <;> refine AH rfl ?_ <;> refine BN rfl rfl (by omega) ?_)
   repeat first | refine nx rfl ?_ | refine nf rfl ?_
   refine AA (Ax (AB (Ax ?_)))
   repeat refine nx rfl ?_
   have hfin : PS C w1.heap.size v8 L8 (pcs s n f) w8 := by
    rw [epc, C2, if_neg hl, List.append_nil]
    exact hP8
   exact AP rfl ⟨k1.trans k8, hnode, _, _, n1.keep.size, hfin⟩
end Go.Proofs.YtfcgdbmoncnibaaGreatDoor
namespace Go.Proofs.YtfcgdbmoncnibaaGreatDoor
open Go.RowKit
set_option linter.unusedVariables false
theorem splice_front {d X c : List Value} {k : Nat} : splice (d ++ X) (d.length + k) c = d ++ splice X k c := by
 simp only [splice]
 rw [List.take_length_add_append, Nat.add_assoc, List.drop_length_add_append, List.append_assoc]
theorem splice_row {c rest : List Value} (hc : c.length = 3) : ∀ (M : List (List Value)) (i : Nat), (∀ d ∈ M, d.length = 3) → i < M.length → splice (M.flatten ++ rest) (i * 3) c = (M.set i c).flatten ++ rest
 | [], i, _, h => by simp at h
 | d :: M, 0, hM, _ => by
  have hd := hM d (by simp)
  simp only [splice, List.flatten_cons, List.set_cons_zero, Nat.zero_mul, List.take_zero, List.nil_append, Nat.zero_add, List.append_assoc]
  rw [show c.length = d.length by omega, List.drop_left]
 | d :: M, i + 1, hM, h => by
  have hd := hM d (by simp)
  have ih := splice_row (rest := rest) hc M i (fun x hx => hM x (by simp [hx])) (by simpa using h)
  rw [List.flatten_cons, List.set_cons_succ, List.flatten_cons, List.append_assoc, show (i + 1) * 3 = d.length + i * 3 by rw [hd, Nat.succ_mul]; omega, splice_front, ih, List.append_assoc]
theorem own_rows {w : World} {B e n cap : Nat} {a : Option Addr} {L : List (List Value)} (h : w.ownsRow B e 3 (.slice a n cap) n L.flatten) (hn : 0 < n) :
  ∃ g rest, a = some ⟨g, 0, none⟩ ∧ B ≤ g ∧ Blk w g e (L.flatten ++ rest) ∧ ∀ (W : World) (M : List (List Value)), Blk W g e (M.flatten ++ rest) → M.flatten.length = L.flatten.length → W.ownsRow B e 3 (.slice a n cap) n M.flatten := by
 obtain ⟨hl, hv⟩ := h
 rcases hv with ⟨_, rfl⟩ | ⟨g, cap', cur, hv, hB, hg, h1, h2, h3, h4⟩
 ·omega
 ·cases hv
  refine ⟨g, cur.toList.drop (n * 3), rfl, hB, ?_, fun W M hb hm => ⟨by rw [hm]; exact hl, .inr ⟨g, cap, (M.flatten ++ cur.toList.drop (n * 3)).toArray, rfl, hB, hb, h1, h2, ?_, ?_⟩⟩⟩
  ·rw [← h4, List.take_append_drop]
   simpa [Blk] using hg
  ·have : cur.toList.length = cur.size := by simp
   have hle : n * 3 ≤ cur.toList.length := by
    have := congrArg List.length h4
    rw [List.length_take, hl] at this; omega
   simp only [List.size_toArray, List.length_append, List.length_drop]
   rw [hm, hl]; omega
  ·rw [show n * 3 = M.flatten.length by rw [hm, hl]]
   simp
theorem row_cells {w : World} {g : Nat} {T : TypeId} {M : List (List Value)} {rest : List Value} (h : Blk w g T (M.flatten ++ rest)) (hM : ∀ d ∈ M, d.length = 3) {i : Nat} {c : List Value} (hc : M[i]? = some c) : Cells w g (0 + i * 3) c := by
 intro j u hu
 have h1 := DD 3 M i j c u hM hc hu
 have hlt := (List.getElem?_eq_some_iff.1 h1).1
 have := h.cells (i * 3 + j) u (by rw [List.getElem?_append_left hlt]; exact h1)
 rw [show 0 + i * 3 + j = 0 + (i * 3 + j) by omega]
 exact this
def RevK (L M : List (List Value)) (k : Nat) : Prop := M.length = L.length ∧ ∀ x, x < L.length → M[x]? = if x < k ∨ L.length ≤ x + k then L[L.length - 1 - x]? else L[x]?
theorem RevK.done {L M : List (List Value)} {k : Nat} (h : RevK L M k) (h2 : L.length ≤ 2 * k + 1) : M = L.reverse := by
 refine List.ext_getElem? fun x => ?_
 by_cases hx : x < L.length
 ·rw [h.2 x hx, List.getElem?_reverse hx]
  split
  ·rfl
  ·rw [show L.length - 1 - x = x by omega]
 ·rw [List.getElem?_eq_none (by rw [h.1]; omega), List.getElem?_eq_none (by simp; omega)]
theorem RevK.step {L M : List (List Value)} {k : Nat} {c d : List Value} (h : RevK L M k) (h2 : 2 * k + 1 < L.length) (hc : L[k]? = some c) (hd : L[L.length - 1 - k]? = some d) : RevK L ((M.set k d).set (L.length - 1 - k) c) (k + 1) := by
 refine ⟨by simp [h.1], fun x hx => ?_⟩
 by_cases h1 : x = L.length - 1 - k
 ·subst h1
  rw [List.getElem?_set_self (by simp [h.1]; omega), if_pos (by omega)]
  rw [show L.length - 1 - (L.length - 1 - k) = k by omega, hc]
 ·rw [List.getElem?_set_ne (Ne.symm h1)]
  by_cases h3 : x = k
  ·subst h3
   rw [List.getElem?_set_self (by rw [h.1]; omega), if_pos (by omega), hd]
  ·rw [List.getElem?_set_ne (Ne.symm h3), h.2 x hx]
   by_cases h4 : x < k ∨ L.length ≤ x + k
   ·rw [if_pos h4, if_pos (by omega)]
   ·rw [if_neg h4, if_neg (by omega)]
set_option maxHeartbeats 1600000 in
theorem reverse_ok (w : World) (C B : Nat) (v : Value) (L : List (List Value)) (ps : List Pc) (h : PS C B v L ps w) :
  Fn Tryz.prog 78 [v] w fun _ w' => PS C B v L.reverse ps.reverse w' ∧ Keep v.ownBlock.toList w w' := by
 obtain ⟨a, cp, rfl⟩ := h.form
 have hLl : L.length = ps.length := h.rs.1
 have hL3 : ∀ d ∈ L, d.length = 3 := h.rs.len
 have hrev : ∀ W, Keep (Value.slice a ps.length cp).ownBlock.toList w W → RsAt pcR (fun b => b < C) W L.reverse ps.reverse := fun W k => by
  have hX : ∀ b, b < C → b ∉ (Value.slice a ps.length cp).ownBlock.toList := fun b hb hx => by
   have := (Bl h.own (Option.mem_toList.1 hx)).1; have := h.le; omega
  have F := h.rs.keep k hX
  refine ⟨by simp [hLl], fun i c p hc hp => ?_⟩
  have hi : i < L.length := by have := (List.getElem?_eq_some_iff.1 hc).1; simpa using this
  rw [List.getElem?_reverse hi] at hc
  rw [List.getElem?_reverse (by omega), ← hLl] at hp
  exact F.2 _ c p hc hp
 refine Ad Tryz.func78 rfl Tryz.ntmps78 (Nat.le_of_ble_eq_true rfl) (by kernel_rfl) ?_
 repeat refine nx rfl ?_
 have hmax : ps.length ≤ 9223372036854775807 := by
  obtain ⟨_, hv⟩ := h.own
  rcases hv with ⟨_, h0⟩ | ⟨g, cap', cur, hv, hB, hg, h1, h2, h3, h4⟩
  ·omega
  ·cases hv; simp only [maxLen] at h2; omega
 (refine AA (Ah rfl (As rfl (W_sub rfl rfl (by first | exact Al (by omega) (by omega) | exact At (by omega) (by omega) | exact Am (by omega) (by omega)) ?_))) <;> refine AB (AH rfl (AB (AH rfl ?_))))
 repeat refine nx rfl ?_
 by_cases hn : ps.length = 0
 ·have hp0 : ps = [] := List.length_eq_zero_iff.1 hn
  have hL0 : L = [] := List.length_eq_zero_iff.1 (by omega)
  refine BY (α := Unit) (fun _ => [(2, .int .i64 0), (3, .int .i64 (-1))]) (fun _ W => W = w) (fun _ => 0) () ⟨rfl, congrArg (Value.int .i64) (by rw [hn]; rfl), trivial⟩ rfl ?_
  rintro _ W f1 rfl
  repeat refine nx rfl ?_
  refine AA (AH rfl (AH rfl (BN rfl rfl (by omega) ?_)))
  repeat first | refine nx rfl ?_ | refine nf rfl ?_
  refine Az rfl ⟨?_, Keep.refl _ _⟩
  subst hp0; subst hL0
  exact h
 ·obtain ⟨g, rest, rfl, hBg, hblk, hback⟩ := own_rows h.own (by omega)
  refine BY (α := Nat × List (List Value)) (fun x => [(0, .slice (some ⟨g, 0, none⟩) ps.length cp), (2, .int .i64 (x.1 : Int)), (3, .int .i64 ((ps.length : Int) - 1 - (x.1 : Int)))])
   (fun x W => 2 * x.1 ≤ ps.length ∧ Keep [g] w W ∧ Blk W g 125 (x.2.flatten ++ rest) ∧ (∀ d ∈ x.2, d.length = 3) ∧ RevK L x.2 x.1) (fun x => ps.length - x.1) (0, L) ⟨rfl, rfl, congrArg (Value.int .i64) (by simp), trivial⟩
   ⟨by simp, Keep.refl _ _, hblk, hL3, rfl, fun x hx => by rw [if_neg (by simp only; omega)]⟩ ?_
  rintro ⟨k, M⟩ w1 f1 ⟨hk, k1, b1, hM3, hR⟩
  simp only at hk k1 b1 hM3 hR ⊢
  repeat refine nx rfl ?_
  by_cases hlt : 2 * k + 1 < ps.length
  ·obtain ⟨c, hcL⟩ : ∃ c, L[k]? = some c := ⟨_, List.getElem?_eq_getElem (by omega)⟩
   obtain ⟨d, hd⟩ : ∃ d, L[L.length - 1 - k]? = some d := ⟨_, List.getElem?_eq_getElem (by omega)⟩
   have hMc : M[k]? = some c := by rw [hR.2 k (by omega), if_neg (by omega)]; exact hcL
   have hMd : M[ps.length - 1 - k]? = some d := by
    rw [hR.2 _ (by omega), if_neg (by omega), ← hLl]; exact hd
   have c3 := hL3 c (List.mem_of_getElem? hcL)
   have d3 := hL3 d (List.mem_of_getElem? hd)
   have ej : (ps.length : Int) - 1 - (k : Int) = ((ps.length - 1 - k : Nat) : Int) := by omega
   rw [ej]
   refine AA (AH rfl (AH rfl (BM rfl rfl (by omega) ?_)))
   repeat refine nx rfl ?_
   refine A7 (.read 0 (.read 1 (.read 2 (.read 3 (.read 4 (.read 5 (.read 6 (.read 8 (.read 9 (.read 10 (.alt 7 (.alt 11 (.read 12 (.alt 13 (.read 14 (.alt 15 .done .stop)) .stop)) .stop) (.alt 11 (.alt 7 (.read 12 (.alt 13 (.read 14 (.alt 15 .done .stop)) .stop)) .stop) .stop)))))))))))) BA (by kernel_rfl) (fun wd kd ed => ⟨fun _ => True, ?_, ?_⟩)
   ·trivial
   have bd := b1.keep kd (by simp)
   have oc : oneC c := by
    obtain ⟨p, hp⟩ : ∃ p, ps[k]? = some p := ⟨_, List.getElem?_eq_getElem (by omega)⟩
    exact pcR.one (h.rs.2 _ c p hcL hp)
   have od : oneC d := by
    obtain ⟨p, hp⟩ : ∃ p, ps[L.length - 1 - k]? = some p := ⟨_, List.getElem?_eq_getElem (by omega)⟩
    exact pcR.one (h.rs.2 _ d p hd hp)
   have hML : M.length = ps.length := by rw [hR.1, hLl]
   have hflat : (M.flatten ++ rest).length ≥ ps.length * 3 := by
    rw [List.length_append, CG 3 _ hM3, hML]; omega
   refine D_R rfl rfl (fun W hW => Ah rfl Z3) (D_R rfl rfl (fun W hW => AH rfl Z3) (D_R rfl rfl (fun W hW => Ah rfl Z3) (D_R rfl rfl (fun W hW => AH rfl Z3) (D_R rfl rfl (fun W hW => Ah rfl Z3) (D_R rfl rfl (fun W hW => AH rfl Z3) (D_R rfl rfl (fun W hW => CH rfl rfl rfl (by omega) Z3) (D_R rfl rfl (fun W hW => Ah rfl Z3) (D_R rfl rfl (fun W hW => AH rfl Z3) (D_R rfl rfl (fun W hW => CH rfl rfl rfl (by omega) Z3) ?_)))))))))
   refine D_A rfl ?_ (D_E rfl ?_)
   ·refine AZ rfl d3 (row_cells bd hM3 hMd) ?_
    refine AI ⟨_, fun _ h => h, trivial, ?_⟩
    refine D_E rfl ?_
    refine AZ rfl c3 (row_cells bd hM3 hMc) ?_
    refine AI ⟨_, fun _ h => h, trivial, ?_⟩
    (apply D_R rfl rfl; (intro W hW; refine CH (k := k) rfl rfl rfl (by omega) ?_; exact AI ⟨rfl, rfl, rfl⟩))
    refine D_E rfl ?_
    refine Aa (cs := d) rfl rfl d3 od bd (by omega) (fun w2 p2 => ?_)
    have b2 := p2.blk
    rw [Nat.zero_add, splice_row d3 M k hM3 (by omega)] at b2
    have hM3' : ∀ x ∈ M.set k d, x.length = 3 := fun x hx => by
     rcases List.mem_or_eq_of_mem_set hx with hx | rfl
     ·exact hM3 x hx
     ·exact d3
    refine AI ⟨_, fun _ h => h, trivial, ?_⟩
    (apply D_R rfl rfl; (intro W hW; refine CH (k := ps.length - 1 - k) rfl rfl rfl (by omega) ?_; exact AI ⟨rfl, rfl, rfl⟩))
    refine D_E rfl ?_
    refine Aa (cs := c) rfl rfl c3 oc b2 (by rw [List.length_append, CG 3 _ hM3', List.length_set, hML]; omega) (fun w3 p3 => ?_)
    have b3 := p3.blk
    rw [Nat.zero_add, splice_row c3 (M.set k d) (ps.length - 1 - k) hM3' (by rw [List.length_set]; omega)] at b3
    have hM3'' : ∀ x ∈ (M.set k d).set (ps.length - 1 - k) c, x.length = 3 := fun x hx => by
     rcases List.mem_or_eq_of_mem_set hx with hx | rfl
     ·exact hM3' x hx
     ·exact c3
    refine AI ⟨_, fun _ h => h, trivial, ?_⟩
    refine Ay ?_
    repeat refine nx rfl ?_
    (refine AA (AH rfl (BR rfl rfl (by first | exact Al (by omega) (by omega) | exact At (by omega) (by omega) | exact Am (by omega) (by omega)) ?_)) <;> refine AH rfl (W_sub rfl rfl (by first | exact Al (by omega) (by omega) | exact At (by omega) (by omega) | exact Am (by omega) (by omega)) ?_) <;> refine AB (AH rfl (AB (AH rfl ?_))))
    repeat refine nx rfl ?_
    refine ⟨(k + 1, (M.set k d).set (ps.length - 1 - k) c), ⟨rfl, ⟨rfl, ?_, ?_, trivial⟩, ⟨by simp only; omega, ((k1.ext kd).trans p2.keep (by simp)).trans p3.keep (by simp), b3, hM3'', ?_⟩⟩, by simp only; omega⟩
    ·show Value.int .i64 ((k : Int) + 1) = _
     rw [Int.natCast_add]; rfl
    ·refine congrArg (Value.int .i64) ?_
     show ((ps.length - 1 - k : Nat) : Int) - 1 = (ps.length : Int) - 1 - ((k + 1 : Nat) : Int)
     omega
    ·simp only
     rw [← hLl]
     exact hR.step (by omega) hcL hd
   ·refine AZ rfl c3 (row_cells bd hM3 hMc) ?_
    refine AI ⟨_, fun _ h => h, trivial, ?_⟩
    refine D_E rfl ?_
    refine AZ rfl d3 (row_cells bd hM3 hMd) ?_
    refine AI ⟨_, fun _ h => h, trivial, ?_⟩
    (apply D_R rfl rfl; (intro W hW; refine CH (k := k) rfl rfl rfl (by omega) ?_; exact AI ⟨rfl, rfl, rfl⟩))
    refine D_E rfl ?_
    refine Aa (cs := d) rfl rfl d3 od bd (by omega) (fun w2 p2 => ?_)
    have b2 := p2.blk
    rw [Nat.zero_add, splice_row d3 M k hM3 (by omega)] at b2
    have hM3' : ∀ x ∈ M.set k d, x.length = 3 := fun x hx => by
     rcases List.mem_or_eq_of_mem_set hx with hx | rfl
     ·exact hM3 x hx
     ·exact d3
    refine AI ⟨_, fun _ h => h, trivial, ?_⟩
    (apply D_R rfl rfl; (intro W hW; refine CH (k := ps.length - 1 - k) rfl rfl rfl (by omega) ?_; exact AI ⟨rfl, rfl, rfl⟩))
    refine D_E rfl ?_
    refine Aa (cs := c) rfl rfl c3 oc b2 (by rw [List.length_append, CG 3 _ hM3', List.length_set, hML]; omega) (fun w3 p3 => ?_)
    have b3 := p3.blk
    rw [Nat.zero_add, splice_row c3 (M.set k d) (ps.length - 1 - k) hM3' (by rw [List.length_set]; omega)] at b3
    have hM3'' : ∀ x ∈ (M.set k d).set (ps.length - 1 - k) c, x.length = 3 := fun x hx => by
     rcases List.mem_or_eq_of_mem_set hx with hx | rfl
     ·exact hM3' x hx
     ·exact c3
    refine AI ⟨_, fun _ h => h, trivial, ?_⟩
    refine Ay ?_
    repeat refine nx rfl ?_
    (refine AA (AH rfl (BR rfl rfl (by first | exact Al (by omega) (by omega) | exact At (by omega) (by omega) | exact Am (by omega) (by omega)) ?_)) <;> refine AH rfl (W_sub rfl rfl (by first | exact Al (by omega) (by omega) | exact At (by omega) (by omega) | exact Am (by omega) (by omega)) ?_) <;> refine AB (AH rfl (AB (AH rfl ?_))))
    repeat refine nx rfl ?_
    refine ⟨(k + 1, (M.set k d).set (ps.length - 1 - k) c), ⟨rfl, ⟨rfl, ?_, ?_, trivial⟩, ⟨by simp only; omega, ((k1.ext kd).trans p2.keep (by simp)).trans p3.keep (by simp), b3, hM3'', ?_⟩⟩, by simp only; omega⟩
    ·show Value.int .i64 ((k : Int) + 1) = _
     rw [Int.natCast_add]; rfl
    ·refine congrArg (Value.int .i64) ?_
     show ((ps.length - 1 - k : Nat) : Int) - 1 = (ps.length : Int) - 1 - ((k + 1 : Nat) : Int)
     omega
    ·simp only
     rw [← hLl]
     exact hR.step (by omega) hcL hd
  ·refine AA (AH rfl (AH rfl (BN rfl rfl (by omega) ?_)))
   repeat first | refine nx rfl ?_ | refine nf rfl ?_
   have e := hR.done (by omega)
   subst e
   have kw : Keep (Value.slice (some ⟨g, 0, none⟩) ps.length cp).ownBlock.toList w w1 := k1.mono (by simp [Value.ownBlock])
   refine Az rfl ⟨⟨?_, hrev _ kw, h.le⟩, kw⟩
   rw [List.length_reverse]
   exact hback w1 _ b1 (by rw [CG 3 _ hM3, CG 3 _ hL3, List.length_reverse])
end Go.Proofs.YtfcgdbmoncnibaaGreatDoor
namespace Go.Proofs.YtfcgdbmoncnibaaGreatDoor
open Go.RowKit
set_option linter.unusedVariables false
variable {mk : Prop} [MK mk]
section
attribute [local semireducible] WC AU Bv BQ Bx Cr C5 Bp
variable {P : Program} {all : Array Oper} {Z : Fr → DS → List PanicEntry → World → Prop} {K : Fr → DS → World → Prop} {rest : List Oper} {f : Fr} {ds : DS} {w : World} {d : Nat} {ty : TypeId} {pos : String} {af : Array Edge}
class PtrT (P : Program) (T : TypeId) (e : outParam TypeId) : Prop where
 und : P.underlying T = some (.pointer e)
 info : ∃ j, P.info? e = some j ∧ j.size ≠ 0
theorem ptrT_of {T e : TypeId} (h : P.underlying T = some (.pointer e)) (h2 : ((P.info? e).map fun j => decide (j.size ≠ 0)) = some true) : PtrT P T e := by
 obtain ⟨j, hj, h3⟩ := Option.map_eq_some_iff.1 h2
 exact ⟨h, j, hj, by simpa using h3⟩
theorem run_eql_none {T e : TypeId} (hT : P.underlying T = some (.pointer e)) : (binOp .eql T (.pointer none) (.pointer none)).run P w = .ok (.bool true) w := by
 have h : ∀ d : Nat, (Op.equalIn (d + 1) T (.pointer none) (.pointer none)).run P w = .ok true w := fun d => by
  simp [Op.equalIn, run_underlying hT]
 simp only [binOp]
 simp [Op.equal, Op.maxDepth, h 9999]
theorem run_eql_some {T e : TypeId} (hT : P.underlying T = some (.pointer e)) (a : Addr) : (binOp .eql T (.pointer (some a)) (.pointer none)).run P w = .ok (.bool false) w := by
 have h : ∀ d : Nat, (Op.equalIn (d + 1) T (.pointer (some a)) (.pointer none)).run P w = .ok false w := fun d => by
  simp [Op.equalIn, run_underlying hT]
 simp only [binOp]
 simp [Op.equal, Op.maxDepth, h 9999]
theorem W_ptrNil {T yt e : TypeId} {x : Operand} {p : Option Addr} [hT : PtrT P T e] (hx : ev f x = .pointer p) (h : AU P all Z K rest (upd f d (.bool p.isNone)) ds w) :
  AU P all Z K (⟨some d, .binOp .eql T x (.const (.pointer none)) yt, ty, pos, af, none⟩ :: rest) f ds w := by
 refine A3 rfl ?_ h
 have hy : ev f (.const (.pointer none)) = .pointer none := rfl
 cases p with
 | none => simp [execOp, hx, hy, eqGuard, run_eql_none hT.und]
 | some a => simp [execOp, hx, hy, eqGuard, run_eql_some hT.und]
theorem W_ptrNeqSame {T yt e : TypeId} {x y : Operand} {a : Addr} [hT : PtrT P T e] (hx : ev f x = .pointer (some a)) (hy : ev f y = .pointer (some a)) (h : AU P all Z K rest (upd f d (.bool false)) ds w) :
  AU P all Z K (⟨some d, .binOp .neq T x y yt, ty, pos, af, none⟩ :: rest) f ds w := by
 refine A3 rfl ?_ h
 obtain ⟨j, hj, _⟩ := hT.info
 simp [execOp, hx, hy, eqGuard, Lib.run_neq_ptr_same w a hT.und hj]
theorem run_sameAddr_unm (w : World) {a b : Addr} {ca cb : Array Value} {ta tb : TypeId} {fa fb : Nat × Nat} (ha : w.heap[a.block]? = some (.cells ca ta fa)) (hb : w.heap[b.block]? = some (.cells cb tb fb)) (hu : fa = (0, 0) ∨ fb = (0, 0)) (h0 : 0 < ca.size) (h1 : 0 < cb.size) (hne : a ≠ b) : (sameAddr a b).run P w = .ok false w := by
 by_cases hbl : a.block = b.block
 ·simp [sameAddr, hbl, hne]
 ·have e0 : ca.size ≠ 0 := by omega
  have e1 : cb.size ≠ 0 := by omega
  have hn : (match some (ta, ca.size) with | some (_, 0) => true | _ => false) = false := by
   cases h : ca.size with
   | zero => exact absurd h e0
   | succ n => rfl
  have hn' : (match some (tb, cb.size) with | some (_, 0) => true | _ => false) = false := by
   cases h : cb.size with
   | zero => exact absurd h e1
   | succ n => rfl
  rcases hu with rfl | rfl
  ·simp [sameAddr, hbl, World.frozen?, ha, hb, noView, viewAt, World.shape?, mayBeOne, stringish, e0, e1]
   try (split <;> simp [hn, hn'])
  ·simp [sameAddr, hbl, World.frozen?, ha, hb, noView, viewAt, World.shape?, mayBeOne, stringish, e0, e1]
   try (split <;> simp [hn, hn'])
theorem W_ptrEq {T yt e : TypeId} {x y : Operand} {a b : Addr} {ca cb : Array Value} {ta tb : TypeId} {fa fb : Nat × Nat} [hT : PtrT P T e] (hx : ev f x = .pointer (some a)) (hy : ev f y = .pointer (some b)) (ha : w.heap[a.block]? = some (.cells ca ta fa)) (hb : w.heap[b.block]? = some (.cells cb tb fb)) (hu : fa = (0, 0) ∨ fb = (0, 0)) (h0 : 0 < ca.size) (h1 : 0 < cb.size)
  (h : AU P all Z K rest (upd f d (.bool (decide (a = b)))) ds w) : AU P all Z K (⟨some d, .binOp .eql T x y yt, ty, pos, af, none⟩ :: rest) f ds w := by
 refine A3 rfl ?_ h
 obtain ⟨j, hj, hs⟩ := hT.info
 have hd : ∀ n : Nat, (Op.equalIn (n + 1) T (.pointer (some a)) (.pointer (some b))).run P w = .ok (decide (a = b)) w := fun n => by
  by_cases hab : a = b
  ·subst hab
   simp [Op.equalIn, run_underlying hT.und, sizeOf, typeInfo, hj, run_sameAddr_same]
  ·simp [Op.equalIn, run_underlying hT.und, sizeOf, typeInfo, hj, hs, run_sameAddr_unm w ha hb hu h0 h1 hab, hab]
 have hr : (binOp .eql T (.pointer (some a)) (.pointer (some b))).run P w = .ok (.bool (decide (a = b))) w := by
  simp only [binOp]
  simp [Op.equal, Op.maxDepth, hd 9999]
 simp [execOp, hx, hy, eqGuard, hr]
end
instance : PtrT Tryz.prog 76 24 := ptrT_of Tryz.underlying76 (by kernel_rfl)
end Go.Proofs.YtfcgdbmoncnibaaGreatDoor
namespace Go.Proofs.YtfcgdbmoncnibaaGreatDoor
open Go.RowKit
set_option linter.unusedVariables false
section
attribute [local semireducible] WC AU Bv BQ Bx Cr C5 Bp
variable {P : Program} {all : Array Oper} {Z : Fr → DS → List PanicEntry → World → Prop} {K : Fr → DS → World → Prop} {rest : List Oper} {f : Fr} {ds : DS} {w : World} {d : Nat} {ty : TypeId} {pos : String} {af : Array Edge}
theorem blk_shape {b : Nat} {T : TypeId} {L : List Value} (h : Blk w b T L) : w.shape? b = some (T, L.length) := by
 have h : w.heap[b]? = some (.cells L.toArray T (0, 0)) := h
 simp [World.shape?, h]
theorem W_toUnsafe {S D e bt : TypeId} {x : Operand} {b : Nat} {L : List Value} [hT : PtrT P S e] (hD : P.underlying D = some .unsafePointer) (hx : ev f x = .pointer (some ⟨b, 0, none⟩)) (hb : Blk w b bt L) (hl : 0 < L.length)
  (h : AU P all Z K rest (upd f d (.pointer (some ⟨b, 0, none⟩))) ds w) : AU P all Z K (⟨some d, .convert S D x, ty, pos, af, none⟩ :: rest) f ds w := by
 refine A3 rfl ?_ h
 obtain ⟨j, hj, hs⟩ := hT.info
 have hr := Lib.run_to_unsafe w ⟨b, 0, none⟩ hT.und hD hj hs (blk_shape hb) hl
 simp [execOp, hx, hr]
theorem W_fromUnsafe {S D e bt : TypeId} {x : Operand} {b : Nat} {L : List Value} [hT : PtrT P D e] (hS : P.underlying S = some .unsafePointer) (hx : ev f x = .pointer (some ⟨b, 0, none⟩)) (hb : Blk w b bt L) (hlies : liesAt P P.depth bt (L.length / P.cellsOf bt) 0 e 1 = true)
  (h : AU P all Z K rest (upd f d (.pointer (some ⟨b, 0, none⟩))) ds w) : AU P all Z K (⟨some d, .convert S D x, ty, pos, af, none⟩ :: rest) f ds w := by
 refine A3 rfl ?_ h
 obtain ⟨j, hj, hs⟩ := hT.info
 have hr := Lib.run_from_unsafe w ⟨b, 0, none⟩ hS hT.und hj (blk_shape hb) hlies
 simp [execOp, hx, hr]
theorem W_extern {g : FuncId} {xs : List Operand} {ats : Array TypeId} {vs : List Value} {v : Value} (hg : ∀ w, (callFunc g vs.toArray).run P w = .ok (.value v) w) (ha : evL f xs = vs) (h : AU P all Z K rest (upd f d v) ds w) :
  AU P all Z K (⟨some d, .call ⟨.value (.func g), xs.toArray, ats⟩, ty, pos, af, none⟩ :: rest) f ds w := by
 refine A3 rfl ?_ h
 rw [evL_map] at ha
 have e : Array.map (ev f) xs.toArray = vs.toArray := by rw [← ha]; simp
 have hg' := hg w
 rw [← e] at hg'
 simp only [execOp, resolve, ev, Deferred.ofValue, Sem.run_bind, Sem.run_pure, Result.andThen_ok]
 simp [invoke] at hg' ⊢
 rw [hg']
theorem W_appendS {T S e : TypeId} {s x : Operand} {B n : Nat} {v : Value} {xs : List Value} {t : List UInt8} [hT : SlT P T e 1 1 (.int .u8 0)] (hS : P.underlying S = some .string) (hv : ev f s = v) (hx : ev f x = AM t)
  (hown : w.ownsRow B e 1 v n xs) (hb : n + t.length ≤ 140737488355328) (hB : B ≤ w.heap.size)
  (h : ∀ v' w', w'.ownsRow B e 1 v' (n + t.length) (xs ++ Ck t) → Keep v.ownBlock.toList w w' → (v'.ownBlock = v.ownBlock ∨ ∀ y, v'.ownBlock = some y → w.heap.size ≤ y) → (v' = .slice none 0 0 ∨ v ≠ .slice none 0 0 ∨ t ≠ []) → AU P all Z K rest (upd f d v') ds w') :
  AU P all Z K (⟨some d, .call ⟨.builtin .append, #[s, x], #[T, S]⟩, ty, pos, af, none⟩ :: rest) f ds w := by
 obtain ⟨i, hi, hz, hsi, hby⟩ := hT.out
 have hsz : (⟨t.toArray⟩ : ByteArray).size = t.length := rfl
 have h63 : n + (⟨t.toArray⟩ : ByteArray).size ≤ maxLen := by rw [hsz]; simp only [maxLen]; omega
 obtain ⟨v', w', hr, ho, hg, hnil⟩ := Lib.run_append_own_string (P := P) w B T S ty e i hT.und hS hi hz hsi hby v n xs hown ⟨t.toArray⟩ h63 (by rw [hsz]; exact hb) hB
 have hblk : v'.ownBlock = v.ownBlock ∨ ∀ y, v'.ownBlock = some y → w.heap.size ≤ y := by
  rcases hown.2 with ⟨rfl, h0⟩ | ⟨g, cap, cur, rfl, hbg, hg, hnc, hcm, hcs, htake⟩
  ·obtain ⟨v2, w2, hr2, ho2, _, _⟩ := Lib.run_append_own_string (P := P) w w.heap.size T S ty e i hT.und hS hi hz hsi hby _ n xs ⟨hown.1, .inl ⟨rfl, h0⟩⟩ ⟨t.toArray⟩ h63 (by rw [hsz]; exact hb) (Nat.le_refl _)
   rw [hr] at hr2
   injection hr2 with e1 e2
   subst e1; subst e2
   refine .inr fun y hy => ?_
   rcases ho2.2 with ⟨rfl, _⟩ | ⟨g, cap, cur, rfl, hbg, _⟩
   ·cases hy
   ·cases hy; exact hbg
  ·have hcs' : cur.size = cap := by simpa using hcs
   by_cases hroom : n + (⟨t.toArray⟩ : ByteArray).size ≤ cap
   ·have hr2 := Lib.run_append_room_string (P := P) w T S ty e i hT.und hS hi hsi g n cap cur hg ⟨t.toArray⟩ hroom (by omega)
    rw [hr] at hr2
    injection hr2 with e1 e2
    exact .inl (by rw [e1]; rfl)
   ·have holds : ∀ j u, xs[j]? = some u → w.cell? ((⟨g, 0, none⟩ : Addr).add j) = some u := hown.cells (g := g) rfl
    have hr2 := Lib.run_append_grow_string (P := P) w T S ty e i (.int .u8 0) hT.und hS hi hz ⟨g, 0, none⟩ n cap xs (by rw [hsi]; exact hown.1) holds ⟨t.toArray⟩ (by omega) (by rw [hsz]; omega) (by rw [hby]; exact growslice_fits (by omega) (by rw [hsz]; omega))
    rw [hr] at hr2
    injection hr2 with e1 e2
    refine .inr fun y hy => ?_
    rw [e1] at hy
    cases hy; exact Nat.le_refl _
 refine A3 (v := v') (w' := w') rfl ?_ (h v' w' ?_ (Keep.of_grown hg fun h => h.elim) hblk ?_)
 ·simp [execOp, resolve, invoke, builtin, hv, hx, hr]
 ·have e1 : Lib.strCells ⟨t.toArray⟩ = Ck t := by simp [Lib.strCells, Ck, enc8]
  rw [← e1]; exact ho
 ·by_cases h1 : v' = .slice none 0 0
  ·exact .inl h1
  ·by_cases h2 : v = .slice none 0 0
   ·refine .inr (.inr fun h3 => h1 (hnil.2 ⟨h2, ?_⟩))
    rw [hsz, h3]; rfl
   ·exact .inr (.inl h2)
theorem W_sliceDataNil {T : TypeId} {s : Operand} {n c : Nat} (hv : ev f s = .slice none n c) (h : AU P all Z K rest (upd f d (.pointer none)) ds w) :
  AU P all Z K (⟨some d, .call ⟨.builtin .unsafeSliceData, #[s], #[T]⟩, ty, pos, af, none⟩ :: rest) f ds w := by
 refine A3 rfl ?_ h
 simp [execOp, resolve, invoke, builtin, hv, Lib.run_unsafeSliceData_nil]
theorem W_sliceData {T : TypeId} {s : Operand} {a : Addr} {n c : Nat} (hv : ev f s = .slice (some a) n c) (hc : c ≠ 0) (h : AU P all Z K rest (upd f d (.pointer (some a))) ds w) :
  AU P all Z K (⟨some d, .call ⟨.builtin .unsafeSliceData, #[s], #[T]⟩, ty, pos, af, none⟩ :: rest) f ds w := by
 refine A3 rfl ?_ h
 simp [execOp, resolve, invoke, builtin, hv, Lib.run_unsafeSliceData_row w _ _ a n c hc]
theorem W_unsafeStrNil {T S : TypeId} {s x : Operand} {p : Option Addr} (hv : ev f s = .pointer p) (hx : ev f x = .int .i64 0) (h : AU P all Z K rest (upd f d (AM [])) ds w) :
  AU P all Z K (⟨some d, .call ⟨.builtin .unsafeString, #[s, x], #[T, S]⟩, ty, pos, af, none⟩ :: rest) f ds w := by
 refine A3 rfl ?_ h
 simp [execOp, resolve, invoke, builtin, hv, hx, Lib.run_unsafeString_none]
 rfl
theorem W_unsafeStr {T S e : TypeId} {s x : Operand} {g : Nat} {t : List UInt8} {cur : List Value} (hp : P.underlying T = some (.pointer e)) (h1 : P.cellsOf e = 1) (hv : ev f s = .pointer (some ⟨g, 0, none⟩)) (hx : ev f x = .int .i64 (t.length : Int))
  (ht : t ≠ []) (hb : Blk w g e cur) (hl : t.length ≤ cur.length) (h63 : t.length ≤ 9223372036854775807) (hc : cur.take t.length = Ck t) (h : ∀ w', Keep [g] w w' → AU P all Z K rest (upd f d (AM t)) ds w') :
  AU P all Z K (⟨some d, .call ⟨.builtin .unsafeString, #[s, x], #[T, S]⟩, ty, pos, af, none⟩ :: rest) f ds w := by
 have hcell : ∀ j y, t[j]? = some y → w.cell? ((⟨g, 0, none⟩ : Addr).add j) = some (.int .u8 y.toNat) := by
  intro j y hy
  have hj := (List.getElem?_eq_some_iff.1 hy).1
  have e1 : (Ck t)[j]? = some (enc8 y) := by simp [Ck, hy]
  rw [← hc, List.getElem?_take_of_lt hj] at e1
  have h3 := hb.cells j _ e1
  rw [Nat.zero_add] at h3
  rw [Addr.add_lit, Nat.zero_add]
  exact h3
 have hr := Lib.run_unsafeString_row (P := P) w T S ty e hp h1 g cur.length (blk_shape hb) t ht hl h63 hcell
 have k : Keep [g] w (w.freeze ⟨g, 0, none⟩ t.length) := by
  unfold World.freeze
  split
  ·exact Keep.refl _ _
  ·refine ⟨rfl, rfl, rfl, by simp, fun b hb hx => ?_, fun h => h.elim⟩
   simp only [Array.getElem?_modify]
   rw [if_neg (fun e => hx (by simp [e]))]
 refine A3 rfl ?_ (h _ k)
 simp [execOp, resolve, invoke, builtin, hv, hx, hr]
end
theorem noEsc_run (v : Value) (w : World) : (callFunc 160 #[v]).run Tryz.prog w = .ok (.value v) w := by
 rw [run_callFunc_extern Tryz.func160 (by kernel_rfl) (by kernel_rfl) (by kernel_rfl) (e := Extern.AbiNoEscape.same) (by kernel_rfl)]
 rfl
instance : PtrT Tryz.prog 115 118 := ptrT_of Tryz.underlying115 (by kernel_rfl)
end Go.Proofs.YtfcgdbmoncnibaaGreatDoor
namespace Go.Proofs.YtfcgdbmoncnibaaGreatDoor
open Go.RowKit
set_option linter.unusedVariables false
structure WrB (W : World) (p : Nat) (v : Value) (t : List UInt8) : Prop where
 blk : ∃ a, (a = none ∨ a = some ⟨p, 0, none⟩) ∧ Blk W p 120 [.pointer a, v]
 own : W.ownsRow (p + 1) 5 1 v t.length (Ck t)
 nz : v = .slice none 0 0 ∨ t ≠ []
structure Wrote (p : Nat) (v v' : Value) (w w' : World) : Prop where
 keep : Keep (p :: v.ownBlock.toList) w w'
 blk : ∀ y, v'.ownBlock = some y → v.ownBlock = some y ∨ w.heap.size ≤ y
theorem Wrote.refl (p : Nat) (v : Value) (w : World) : Wrote p v v w w := ⟨Keep.refl _ _, fun _ h => .inl h⟩
theorem Wrote.trans {p : Nat} {v v' v'' : Value} {a b c : World} (h : Wrote p v v' a b) (k : Wrote p v' v'' b c) : Wrote p v v'' a c := by
 refine ⟨h.keep.trans k.keep fun x hx hlt => ?_, fun y hy => ?_⟩
 ·rcases List.mem_cons.1 hx with rfl | hx
  ·simp
  ·rcases h.blk x (Option.mem_toList.1 hx) with h1 | h1
   ·simp [h1]
   ·omega
 ·rcases k.blk y hy with h1 | h1
  ·exact h.blk y h1
  ·exact .inr (Nat.le_trans h.keep.size h1)
theorem Wrote.ext {p : Nat} {v v' : Value} {a b c : World} (h : Wrote p v v' a b) (k : Ext b c) : Wrote p v v' a c := ⟨h.keep.ext k, h.blk⟩
theorem WrB.keep {X : List Nat} {w w' : World} {p : Nat} {v : Value} {t : List UInt8} (h : WrB w p v t) (k : Keep X w w') (h1 : p ∉ X) (h2 : ∀ y, v.ownBlock = some y → y ∉ X) : WrB w' p v t := by
 obtain ⟨⟨a, ha, hb⟩, ho, hn⟩ := h
 exact ⟨⟨a, ha, hb.keep k h1⟩, A5 ho k h2, hn⟩
theorem WrB.ext {w w' : World} {p : Nat} {v : Value} {t : List UInt8} (h : WrB w p v t) (k : Ext w w') : WrB w' p v t := h.keep k (by simp) (by simp)
theorem WrB.lt {w : World} {p : Nat} {v : Value} {t : List UInt8} (h : WrB w p v t) : p < w.heap.size := by
 obtain ⟨⟨a, _, hb⟩, _⟩ := h
 exact hb.lt
theorem WrB.ge {w : World} {p y : Nat} {v : Value} {t : List UInt8} (h : WrB w p v t) (hy : v.ownBlock = some y) : p < y ∧ y < w.heap.size := by
 have := Bl h.own hy
 exact ⟨by omega, this.2⟩
theorem copyCheck_ok (w : World) (p : Nat) (v : Value) (a : Option Addr) (ha : a = none ∨ a = some ⟨p, 0, none⟩) (hb : Blk w p 120 [.pointer a, v]) :
  Fn Tryz.prog 153 [pt p] w fun _ w' => Blk w' p 120 [pt p, v] ∧ Keep [p] w w' := by
 refine Ad Tryz.func153 rfl Tryz.ntmps153 (Nat.le_of_ble_eq_true rfl) (by kernel_rfl) ?_
 repeat refine nx rfl ?_
 rcases ha with rfl | rfl
 ·have h0 : w.cell? ⟨p, 0 + 0, none⟩ = some (.pointer none) := hb.cell rfl
  refine AA (AK rfl (AF rfl (AD rfl (AG rfl (Blk.cell (by assumption) (by rfl)) ?_))))
  refine W_ptrNil rfl ?_
  repeat refine nx rfl ?_
  refine AA (AK rfl (AK rfl ?_))
  refine W_toUnsafe (by kernel_rfl) rfl hb (Nat.zero_lt_succ _) ?_
  refine W_extern (vs := [pt p]) (fun W => noEsc_run _ W) rfl ?_
  refine W_fromUnsafe (by kernel_rfl) rfl hb (by kernel_rfl) ?_
  refine AF rfl (AD rfl ?_)
  refine Ak rfl rfl rfl hb (by simp) (fun w2 p2 => ?_)
  repeat refine nx rfl ?_
  exact Az rfl ⟨p2.blk, p2.keep⟩
 ·have h0 : w.cell? ⟨p, 0 + 0, none⟩ = some (pt p) := hb.cell rfl
  refine AA (AK rfl (AF rfl (AD rfl (AG rfl (Blk.cell (by assumption) (by rfl)) ?_))))
  refine W_ptrNil rfl ?_
  repeat first | refine nx rfl ?_ | refine nf rfl ?_
  (refine AA (AK rfl (AF rfl (AD rfl (AG rfl (Blk.cell (by assumption) (by rfl)) ?_)))) <;> refine AK rfl ?_)
  refine W_ptrNeqSame rfl rfl ?_
  repeat first | refine nx rfl ?_ | refine nf rfl ?_
  exact Az rfl ⟨hb, Keep.refl _ _⟩
theorem writeStr_ok (w : World) (p : Nat) (v : Value) (t s : List UInt8) (h : WrB w p v t) (hl : t.length + s.length ≤ 140737488355328) :
  Fn Tryz.prog 122 [pt p, AM s] w fun _ w' => ∃ v', WrB w' p v' (t ++ s) ∧ Wrote p v v' w w' := by
 obtain ⟨⟨a, ha, hb⟩, ho, hn⟩ := id h
 refine Ad Tryz.func122 rfl Tryz.ntmps122 (Nat.le_of_ble_eq_true rfl) (by kernel_rfl) ?_
 repeat refine nx rfl ?_
 refine AA (AB (AH rfl (AB (Ax ?_))))
 repeat refine nx rfl ?_
 refine AA (AK rfl ?_)
 refine AS (copyCheck_ok w p v a ha hb) rfl ?_
 rintro _ w1 ⟨b1, k1⟩
 have h1 : w1.cell? ⟨p, 0 + 1, none⟩ = some v := b1.cell rfl
 have z1 := k1.size
 have hne : ∀ y, v.ownBlock = some y → y ≠ p := fun y hy e => by have := h.ge hy; omega
 have o1 := A5 ho k1 fun y hy hx => hne y hy (by simpa using hx)
 repeat refine nx rfl ?_
 (refine AA (AK rfl (AK rfl (AF rfl (AD rfl (AG rfl (Blk.cell (by assumption) (by rfl)) ?_))))) <;> refine AY rfl ?_)
 refine W_appendS (v := v) (by kernel_rfl) rfl rfl o1 hl (by have := h.lt; omega) (fun v2 w2 o2 k2 hv2 hz2 => ?_)
 have b2 := b1.keep k2 (fun hx => hne p (Option.mem_toList.1 hx) rfl)
 refine AF rfl (AD rfl ?_)
 have hv1 : v2.oneCell' = true := by rcases o2.2 with ⟨rfl, _⟩ | ⟨_, _, _, rfl, _⟩ <;> rfl
 refine Ak rfl rfl hv1 b2 (by simp) (fun w3 p3 => ?_)
 have hne2 : ∀ y, v2.ownBlock = some y → y ≠ p := fun y hy => by
  have := Bl o2 hy
  omega
 have k13 : Wrote p v v2 w w3 := by
  refine ⟨((k1.mono (Y := p :: v.ownBlock.toList) (by simp)).trans k2 (fun x hx _ => by simp [hx])).trans p3.keep (by simp), ?_⟩
  ·intro y hy
   rcases hv2 with e | e
   ·exact .inl (by rw [← e]; exact hy)
   ·exact .inr (by have := e y hy; omega)
 repeat refine nx rfl ?_
 refine AA (AY rfl (Bb rfl (AB (AH rfl (AB (Ax ?_))))))
 repeat refine nx rfl ?_
 refine fin_ret2 rfl ⟨v2, ⟨⟨some ⟨p, 0, none⟩, .inr rfl, p3.blk⟩, ?_, ?_⟩, k13⟩
 ·rw [List.length_append, cells8_append]
  exact A5 o2 p3.keep fun y hy hx => hne2 y hy (by simpa using hx)
 ·rcases hz2 with e | e | e
  ·exact .inl e
  ·rcases hn with e2 | e2
   ·exact absurd e2 e
   ·exact .inr (by simp [e2])
  ·exact .inr (by simp [e])
theorem put_ok (w : World) (p : Nat) (v sv : Value) (t : List UInt8) (parts : List (List UInt8)) (h : WrB w p v t) (hS : Sl (fun b => b < w.heap.size ∧ b ≠ p ∧ v.ownBlock ≠ some b) w sv parts.length (parts.map AM)) (hl : t.length + parts.flatten.length ≤ 140737488355328) :
  Fn Tryz.prog 75 [pt p, sv] w fun _ w' => ∃ v', WrB w' p v' (t ++ parts.flatten) ∧ Wrote p v v' w w' := by
 obtain ⟨a, cap, rfl, hnc, hcm, _, hq⟩ := hS
 have hbd : parts.length ≤ 9223372036854775807 := by omega
 refine Ad Tryz.func75 rfl Tryz.ntmps75 (Nat.le_of_ble_eq_true rfl) (by kernel_rfl) ?_
 repeat refine nx rfl ?_
 refine AA (Ah rfl (As rfl (AH rfl ?_)))
 repeat refine nx rfl ?_
 refine BY (α := Nat × Value) (fun x => [(0, pt p), (6, .slice a parts.length cap), (7, .int .i64 (parts.length : Int)), (8, .int .i64 (x.1 : Int))]) (fun x W => x.1 ≤ parts.length ∧ WrB W p x.2 (t ++ (parts.take x.1).flatten) ∧ Wrote p v x.2 w W) (fun x => parts.length - x.1) (0, v)
  ⟨rfl, rfl, rfl, rfl, trivial⟩ ⟨Nat.zero_le _, by simpa using h, Wrote.refl _ _ _⟩ ?_
 rintro ⟨i, v1⟩ w1 f1 ⟨hi, h1, k1⟩
 simp only at hi h1 k1 ⊢
 repeat refine nx rfl ?_
 by_cases hlt : i < parts.length
 ·refine AA (BM rfl rfl (by omega) ?_)
  repeat refine nx rfl ?_
  rcases hq with h0 | ⟨b, o, rfl, hb, hcl⟩
  ·omega
  have hs : parts[i]? = some parts[i] := List.getElem?_eq_getElem hlt
  generalize parts[i] = s at hs
  have l0 : w1.cell? ⟨b, o + i, none⟩ = some (AM s) := k1.keep.cell (hcl i _ (by simp [hs])) (by
   simp only [List.mem_cons, Option.mem_toList, not_or]
   exact ⟨hb.2.1, hb.2.2⟩)
  have hfl : (parts.take (i + 1)).flatten = (parts.take i).flatten ++ s := by
   rw [List.take_add_one, hs]; simp
  have hle : (parts.take (i + 1)).flatten.length ≤ parts.flatten.length := by
   have e : parts.flatten = (parts.take (i + 1)).flatten ++ (parts.drop (i + 1)).flatten := by rw [← List.flatten_append, List.take_append_drop]
   rw [e, List.length_append]; omega
  rw [hfl, List.length_append] at hle
  (refine AA (W_idx1 rfl rfl rfl (by omega) (AG rfl (by assumption) ?_)) <;> refine AB (AY rfl ?_))
  repeat refine nx rfl ?_
  refine AA (AK rfl (AF rfl (AD rfl (AY rfl ?_))))
  refine AS (writeStr_ok w1 p v1 _ s h1 (by rw [List.length_append]; omega)) rfl ?_
  rintro _ w2 ⟨v2, h2, k2⟩
  repeat refine nx rfl ?_
  (refine AA (BR rfl rfl (by first | exact Al (by omega) (by omega) | exact At (by omega) (by omega) | exact Am (by omega) (by omega)) ?_) <;> refine AH rfl ?_)
  repeat refine nx rfl ?_
  refine ⟨(i + 1, v2), ⟨rfl, ⟨rfl, rfl, rfl, ?_, trivial⟩, ⟨hlt, ?_, k1.trans k2⟩⟩, by simp only; omega⟩
  ·show Value.int .i64 ((i : Int) + 1) = _
   rw [Int.natCast_add]; rfl
  ·simp only
   rw [hfl, ← List.append_assoc]
   exact h2
 ·refine AA (BN rfl rfl (by omega) ?_)
  repeat first | refine nx rfl ?_ | refine nf rfl ?_
  refine Az rfl ⟨v1, ?_, k1⟩
  rw [List.take_of_length_le (by omega)] at h1
  exact h1
theorem bstring_ok (w : World) (p : Nat) (v : Value) (t : List UInt8) (h : WrB w p v t) (hl : t.length ≤ 140737488355328) :
  Fn Tryz.prog 73 [pt p] w fun u w' => u = AM t ∧ Keep v.ownBlock.toList w w' := by
 obtain ⟨⟨a, ha, hb⟩, ho, hn⟩ := id h
 refine Ad Tryz.func73 rfl Tryz.ntmps73 (Nat.le_of_ble_eq_true rfl) (by kernel_rfl) ?_
 repeat refine nx rfl ?_
 refine AA (AB (AY rfl ?_))
 repeat refine nx rfl ?_
 have hne : p ∉ v.ownBlock.toList := fun hx => by have := h.ge (Option.mem_toList.1 hx); omega
 have hsl : v = .slice none 0 0 ∧ t = [] ∨ t ≠ [] ∧ ∃ g c cur, v = .slice (some ⟨g, 0, none⟩) t.length c ∧ Blk w g 5 cur ∧ t.length ≤ cur.length ∧ c ≠ 0 ∧ cur.take t.length = Ck t := by
  rcases ho.2 with ⟨rfl, h0⟩ | ⟨g, c, cur, rfl, hbg, hg, h1, h2, h3, h4⟩
  ·exact .inl ⟨rfl, List.length_eq_zero_iff.1 h0⟩
  ·have ht : t ≠ [] := by
    rcases hn with e | e
    ·cases e
    ·exact e
   have hp : 0 < t.length := List.length_pos_iff.2 ht
   have h3' : cur.size = c := by simpa using h3
   refine .inr ⟨ht, g, c, cur.toList, rfl, by simpa [Blk] using hg, by simp; omega, by omega, ?_⟩
   rw [← h4, Nat.mul_one]
 refine A7 (.read 0 (.read 1 (.read 2 (.read 3 (.read 5 (.read 6 (.read 7 (.read 8 (.read 9 (.alt 4 (.alt 10 (.read 11 .done) .stop) .stop)))))))))) BA (by kernel_rfl) (fun wd kd ed => ⟨Keep v.ownBlock.toList wd, ?_, ?_⟩)
 ·exact Keep.refl _ _
 have fc : ∀ W, Keep v.ownBlock.toList wd W → W.cell? ⟨p, 0 + 1, none⟩ = some v := fun W k => ((hb.keep kd (by simp)).keep k hne).cell rfl
 rcases hsl with ⟨rfl, rfl⟩ | ⟨ht, g, c, cur, rfl, hg, hlc, hc0, hcu⟩
 ·refine D_R rfl rfl (fun W hW => AK rfl Z3) (D_R rfl rfl (fun W hW => AF rfl Z3) (D_R rfl rfl (fun W hW => AD rfl Z3) (D_R rfl rfl (fun W hW => AG rfl (fc W hW) Z3) (D_R rfl rfl (fun W hW => AK rfl Z3) (D_R rfl rfl (fun W hW => AF rfl Z3) (D_R rfl rfl (fun W hW => AD rfl Z3) (D_R rfl rfl (fun W hW => AG rfl (fc W hW) Z3) (D_R rfl rfl (fun W hW => As rfl Z3) ?_))))))))
  refine D_E rfl ?_
  refine W_sliceDataNil rfl ?_
  refine AI ⟨_, fun _ h => h, Keep.refl _ _, ?_⟩
  refine D_E rfl ?_
  refine W_unsafeStrNil rfl rfl ?_
  refine AI ⟨_, fun _ h => h, Keep.refl _ _, ?_⟩
  refine D_R rfl rfl (fun W hW => AB (AY rfl Z3)) (Ay ?_)
  repeat refine nx rfl ?_
  exact AP rfl ⟨rfl, kd.any⟩
 ·refine D_R rfl rfl (fun W hW => AK rfl Z3) (D_R rfl rfl (fun W hW => AF rfl Z3) (D_R rfl rfl (fun W hW => AD rfl Z3) (D_R rfl rfl (fun W hW => AG rfl (fc W hW) Z3) (D_R rfl rfl (fun W hW => AK rfl Z3) (D_R rfl rfl (fun W hW => AF rfl Z3) (D_R rfl rfl (fun W hW => AD rfl Z3) (D_R rfl rfl (fun W hW => AG rfl (fc W hW) Z3) (D_R rfl rfl (fun W hW => As rfl Z3) ?_))))))))
  refine D_E rfl ?_
  refine W_sliceData rfl hc0 ?_
  refine AI ⟨_, fun _ h => h, Keep.refl _ _, ?_⟩
  refine D_E rfl ?_
  refine W_unsafeStr (by kernel_rfl) (by kernel_rfl) rfl rfl ht (hg.keep kd (by simp)) hlc (by omega) hcu (fun w3 k3 => ?_)
  refine AI ⟨_, fun _ h => h, k3, ?_⟩
  refine D_R rfl rfl (fun W hW => AB (AY rfl Z3)) (Ay ?_)
  repeat refine nx rfl ?_
  exact AP rfl ⟨rfl, kd.any.trans k3 (fun x hx _ => hx)⟩
end Go.Proofs.YtfcgdbmoncnibaaGreatDoor
