/- The printer: what a node must be, its sign. The printer: the sign of a node. The printer: the pieces of a node. The printer: pieces, walked. The printer: pieces put the other way round. Rules: pointers compared. Conditions: none. -/
import Derived.Test.YtfcgdbmoncnibaaGreatDoorZG9
import Derived.Lib.Builder
import Derived.LaidEql

namespace Go.Proofs.YtfcgdbmoncnibaaGreatDoor
open Go.RowKit
set_option linter.unusedVariables false
def nodeC (s : Sty) (f : Fml) : Bool := decide (s.least ≤ f.args.length ∧ f.args.length ≤ s.most) && decide (0 ≤ f.val ∧ f.val ≤ (s.val : Int)) && decide (0 ≤ f.bound ∧ f.bound ≤ (s.bound : Int)) && (decide (f.op = 3) || f.name.isEmpty)
theorem check_ok (w : World) (s : Sty) (b o : Nat) (f : Fml) (a : Option Addr) (c : Nat) (hcl : Cells w b o (fcC f (.slice a f.args.length c))) : FnP Tryz.prog 123 [Bj s, .pointer (some ⟨b, o, none⟩)] w
  (fun v w' => v = .tuple #[] ∧ Ext w w' ∧ nodeC s f = true) (fun ch w' => ch = unp ∧ Ext w w' ∧ nodeC s f = false) := by
 refine Ar Tryz.func123 rfl Tryz.ntmps123 (Nat.le_of_ble_eq_true rfl) (by kernel_rfl) ?_
 repeat refine nx rfl ?_
 (refine AA ?_; refine Bq (L := CN s) rfl (fun w1 n1 => AJ ?_))
 have b1 := n1.blk
 have k1 := n1.keep
 repeat refine nx rfl ?_
 by_cases q1 : s.least ≤ f.args.length
 case neg =>
  refine B3 (.read 0 (.read 1 (.read 2 (.read 3 (.read 4 (.read 5 (.read 6 (.read 7 (.read 8 (.read 9 (.read 10 (.read 11 (.read 12 (.read 13 (.read 14 (.read 15 (.read 16 (.read 17 (.alt 18 .done .stop))))))))))))))))))) BP (by kernel_rfl) (by repeat (first | exact BW | refine BI ?_)) (fun wd kd ed => ⟨Ext wd, ?_, ?_⟩)
  ·exact Ext.refl _
  have bd := b1.keep kd (by simp)
  have fa : ∀ W, Ext wd W → W.cell? ⟨b, o + 4, none⟩ = some (.slice a f.args.length c) := fun W e => ((k1.trans kd).trans e).cell (hcl 4 _ rfl) (by simp)
  have fb : ∀ W, Ext wd W → W.cell? ⟨b, o + 2, none⟩ = some (.int .i64 f.val) := fun W e => ((k1.trans kd).trans e).cell (hcl 2 _ rfl) (by simp)
  have fc : ∀ W, Ext wd W → W.cell? ⟨b, o + 3, none⟩ = some (.int .i64 f.bound) := fun W e => ((k1.trans kd).trans e).cell (hcl 3 _ rfl) (by simp)
  have g4 : ∀ W, Ext wd W → W.cell? ⟨w.heap.size, 0 + 4, none⟩ = some (.int .i64 (s.least : Int)) := fun W e => (bd.keep e (by simp)).cell rfl
  have g5 : ∀ W, Ext wd W → W.cell? ⟨w.heap.size, 0 + 5, none⟩ = some (.int .i64 (s.most : Int)) := fun W e => (bd.keep e (by simp)).cell rfl
  have g6 : ∀ W, Ext wd W → W.cell? ⟨w.heap.size, 0 + 6, none⟩ = some (.int .i64 (s.val : Int)) := fun W e => (bd.keep e (by simp)).cell rfl
  have g7 : ∀ W, Ext wd W → W.cell? ⟨w.heap.size, 0 + 7, none⟩ = some (.int .i64 (s.bound : Int)) := fun W e => (bd.keep e (by simp)).cell rfl
  refine D_R rfl rfl (fun W hW => AQ rfl Z3) (D_R rfl rfl (fun W hW => AH rfl Z3) (D_R rfl rfl (fun W hW => AD rfl Z3) (D_R rfl rfl (fun W hW => AG rfl (fa W hW) Z3) (D_R rfl rfl (fun W hW => As rfl Z3) (D_R rfl rfl (fun W hW => AD rfl Z3) (D_R rfl rfl (fun W hW => AG rfl (g4 W hW) Z3) (D_geqF rfl rfl rfl rfl (by omega) (D_R rfl rfl (fun W hW => AB rfl Z3) (Af rfl rfl rfl rfl (Af rfl rfl rfl rfl (Af rfl rfl rfl rfl (Af rfl rfl rfl rfl (Af rfl rfl rfl rfl (Af rfl rfl rfl rfl (Af rfl rfl rfl rfl (Af rfl rfl rfl rfl (D_R rfl rfl (fun W hW => AP rfl (AB rfl Z3)) ?_)))))))))))))))))
  refine D_E rfl ?_
  refine Aa (Bz wd false) rfl ?_ ?_
  ·rintro v w2 ⟨_, hb, _⟩; cases hb
  rintro ch w2 ⟨rfl, hb, rfl⟩
  repeat refine nx rfl ?_
  exact AY ⟨rfl, k1.trans kd, by simp [nodeC, q1]⟩
 by_cases q2 : f.args.length ≤ s.most
 case neg =>
  refine B3 (.read 0 (.read 1 (.read 2 (.read 3 (.read 4 (.read 5 (.read 6 (.read 7 (.read 8 (.read 9 (.read 10 (.read 11 (.read 12 (.read 13 (.read 14 (.read 15 (.read 16 (.read 17 (.alt 18 .done .stop))))))))))))))))))) BP (by kernel_rfl) (by repeat (first | exact BW | refine BI ?_)) (fun wd kd ed => ⟨Ext wd, ?_, ?_⟩)
  ·exact Ext.refl _
  have bd := b1.keep kd (by simp)
  have fa : ∀ W, Ext wd W → W.cell? ⟨b, o + 4, none⟩ = some (.slice a f.args.length c) := fun W e => ((k1.trans kd).trans e).cell (hcl 4 _ rfl) (by simp)
  have fb : ∀ W, Ext wd W → W.cell? ⟨b, o + 2, none⟩ = some (.int .i64 f.val) := fun W e => ((k1.trans kd).trans e).cell (hcl 2 _ rfl) (by simp)
  have fc : ∀ W, Ext wd W → W.cell? ⟨b, o + 3, none⟩ = some (.int .i64 f.bound) := fun W e => ((k1.trans kd).trans e).cell (hcl 3 _ rfl) (by simp)
  have g4 : ∀ W, Ext wd W → W.cell? ⟨w.heap.size, 0 + 4, none⟩ = some (.int .i64 (s.least : Int)) := fun W e => (bd.keep e (by simp)).cell rfl
  have g5 : ∀ W, Ext wd W → W.cell? ⟨w.heap.size, 0 + 5, none⟩ = some (.int .i64 (s.most : Int)) := fun W e => (bd.keep e (by simp)).cell rfl
  have g6 : ∀ W, Ext wd W → W.cell? ⟨w.heap.size, 0 + 6, none⟩ = some (.int .i64 (s.val : Int)) := fun W e => (bd.keep e (by simp)).cell rfl
  have g7 : ∀ W, Ext wd W → W.cell? ⟨w.heap.size, 0 + 7, none⟩ = some (.int .i64 (s.bound : Int)) := fun W e => (bd.keep e (by simp)).cell rfl
  refine D_R rfl rfl (fun W hW => AQ rfl Z3) (D_R rfl rfl (fun W hW => AH rfl Z3) (D_R rfl rfl (fun W hW => AD rfl Z3) (D_R rfl rfl (fun W hW => AG rfl (fa W hW) Z3) (D_R rfl rfl (fun W hW => As rfl Z3) (D_R rfl rfl (fun W hW => AD rfl Z3) (D_R rfl rfl (fun W hW => AG rfl (g4 W hW) Z3) (D_geqT rfl rfl rfl rfl (by omega) (D_R rfl rfl (fun W hW => AB rfl Z3) (D_R rfl rfl (fun W hW => AE rfl (AQ rfl Z3)) (D_R rfl rfl (fun W hW => AE rfl (AH rfl Z3)) (D_R rfl rfl (fun W hW => AE rfl (AD rfl Z3)) (D_R rfl rfl (fun W hW => AE rfl (AG rfl (fa W hW) Z3)) (D_R rfl rfl (fun W hW => AE rfl (As rfl Z3)) (D_R rfl rfl (fun W hW => AE rfl (AD rfl Z3)) (D_R rfl rfl (fun W hW => AE rfl (AG rfl (g5 W hW) Z3)) (D_leqF rfl rfl rfl rfl (by omega) (D_R rfl rfl (fun W hW => AK rfl (AB rfl Z3)) ?_)))))))))))))))))
  refine D_E rfl ?_
  refine Aa (Bz wd false) rfl ?_ ?_
  ·rintro v w2 ⟨_, hb, _⟩; cases hb
  rintro ch w2 ⟨rfl, hb, rfl⟩
  repeat refine nx rfl ?_
  exact AY ⟨rfl, k1.trans kd, by simp [nodeC, q2]⟩
 refine B3 (.read 0 (.read 1 (.read 2 (.read 3 (.read 4 (.read 5 (.read 6 (.read 7 (.read 8 (.read 9 (.read 10 (.read 11 (.read 12 (.read 13 (.read 14 (.read 15 (.read 16 (.read 17 (.alt 18 .done .stop))))))))))))))))))) BP (by kernel_rfl) (by repeat (first | exact BW | refine BI ?_)) (fun wd kd ed => ⟨Ext wd, ?_, ?_⟩)
 ·exact Ext.refl _
 have bd := b1.keep kd (by simp)
 have fa : ∀ W, Ext wd W → W.cell? ⟨b, o + 4, none⟩ = some (.slice a f.args.length c) := fun W e => ((k1.trans kd).trans e).cell (hcl 4 _ rfl) (by simp)
 have fb : ∀ W, Ext wd W → W.cell? ⟨b, o + 2, none⟩ = some (.int .i64 f.val) := fun W e => ((k1.trans kd).trans e).cell (hcl 2 _ rfl) (by simp)
 have fc : ∀ W, Ext wd W → W.cell? ⟨b, o + 3, none⟩ = some (.int .i64 f.bound) := fun W e => ((k1.trans kd).trans e).cell (hcl 3 _ rfl) (by simp)
 have g4 : ∀ W, Ext wd W → W.cell? ⟨w.heap.size, 0 + 4, none⟩ = some (.int .i64 (s.least : Int)) := fun W e => (bd.keep e (by simp)).cell rfl
 have g5 : ∀ W, Ext wd W → W.cell? ⟨w.heap.size, 0 + 5, none⟩ = some (.int .i64 (s.most : Int)) := fun W e => (bd.keep e (by simp)).cell rfl
 have g6 : ∀ W, Ext wd W → W.cell? ⟨w.heap.size, 0 + 6, none⟩ = some (.int .i64 (s.val : Int)) := fun W e => (bd.keep e (by simp)).cell rfl
 have g7 : ∀ W, Ext wd W → W.cell? ⟨w.heap.size, 0 + 7, none⟩ = some (.int .i64 (s.bound : Int)) := fun W e => (bd.keep e (by simp)).cell rfl
 refine D_R rfl rfl (fun W hW => AQ rfl Z3) (D_R rfl rfl (fun W hW => AH rfl Z3) (D_R rfl rfl (fun W hW => AD rfl Z3) (D_R rfl rfl (fun W hW => AG rfl (fa W hW) Z3) (D_R rfl rfl (fun W hW => As rfl Z3) (D_R rfl rfl (fun W hW => AD rfl Z3) (D_R rfl rfl (fun W hW => AG rfl (g4 W hW) Z3) (D_geqT rfl rfl rfl rfl (by omega) (D_R rfl rfl (fun W hW => AB rfl Z3) (D_R rfl rfl (fun W hW => AE rfl (AQ rfl Z3)) (D_R rfl rfl (fun W hW => AE rfl (AH rfl Z3)) (D_R rfl rfl (fun W hW => AE rfl (AD rfl Z3)) (D_R rfl rfl (fun W hW => AE rfl (AG rfl (fa W hW) Z3)) (D_R rfl rfl (fun W hW => AE rfl (As rfl Z3)) (D_R rfl rfl (fun W hW => AE rfl (AD rfl Z3)) (D_R rfl rfl (fun W hW => AE rfl (AG rfl (g5 W hW) Z3)) (D_leqT rfl rfl rfl rfl (by omega) (D_R rfl rfl (fun W hW => AK rfl (AB rfl Z3)) ?_)))))))))))))))))
 refine D_E rfl ?_
 refine Aa (Bz wd true) rfl ?_ ?_
 rotate_left
 ·rintro ch w2 ⟨_, hb, _⟩; cases hb
 rintro v w2 ⟨rfl, hb, rfl⟩
 refine AJ ⟨Ext w2, fun _ e => e, Ext.refl _, ?_⟩
 refine A8 ?_
 repeat refine nx rfl ?_
 replace k1 := k1.trans kd
 clear fa fb fc g4 g5 g6 g7 kd ed b1
 have b1 := bd
 clear bd
 by_cases q3 : 0 ≤ f.val
 case neg =>
  refine B3 (.read 0 (.read 1 (.read 2 (.read 3 (.read 4 (.read 5 (.read 6 (.read 7 (.read 8 (.read 9 (.read 10 (.read 11 (.read 12 (.read 13 (.alt 14 .done .stop))))))))))))))) BP (by kernel_rfl) (by repeat (first | exact BW | refine BI ?_)) (fun wd kd ed => ⟨Ext wd, ?_, ?_⟩)
  ·exact Ext.refl _
  have bd := b1.keep kd (by simp)
  have fa : ∀ W, Ext wd W → W.cell? ⟨b, o + 4, none⟩ = some (.slice a f.args.length c) := fun W e => ((k1.trans kd).trans e).cell (hcl 4 _ rfl) (by simp)
  have fb : ∀ W, Ext wd W → W.cell? ⟨b, o + 2, none⟩ = some (.int .i64 f.val) := fun W e => ((k1.trans kd).trans e).cell (hcl 2 _ rfl) (by simp)
  have fc : ∀ W, Ext wd W → W.cell? ⟨b, o + 3, none⟩ = some (.int .i64 f.bound) := fun W e => ((k1.trans kd).trans e).cell (hcl 3 _ rfl) (by simp)
  have g4 : ∀ W, Ext wd W → W.cell? ⟨w.heap.size, 0 + 4, none⟩ = some (.int .i64 (s.least : Int)) := fun W e => (bd.keep e (by simp)).cell rfl
  have g5 : ∀ W, Ext wd W → W.cell? ⟨w.heap.size, 0 + 5, none⟩ = some (.int .i64 (s.most : Int)) := fun W e => (bd.keep e (by simp)).cell rfl
  have g6 : ∀ W, Ext wd W → W.cell? ⟨w.heap.size, 0 + 6, none⟩ = some (.int .i64 (s.val : Int)) := fun W e => (bd.keep e (by simp)).cell rfl
  have g7 : ∀ W, Ext wd W → W.cell? ⟨w.heap.size, 0 + 7, none⟩ = some (.int .i64 (s.bound : Int)) := fun W e => (bd.keep e (by simp)).cell rfl
  refine D_R rfl rfl (fun W hW => AQ rfl Z3) (D_R rfl rfl (fun W hW => AH rfl Z3) (D_R rfl rfl (fun W hW => AD rfl Z3) (D_R rfl rfl (fun W hW => AG rfl (fb W hW) Z3) (D_geqF rfl rfl rfl rfl (by omega) (D_R rfl rfl (fun W hW => AB rfl Z3) (Af rfl rfl rfl rfl (Af rfl rfl rfl rfl (Af rfl rfl rfl rfl (Af rfl rfl rfl rfl (Af rfl rfl rfl rfl (Af rfl rfl rfl rfl (Af rfl rfl rfl rfl (D_R rfl rfl (fun W hW => AP rfl (AB rfl Z3)) ?_)))))))))))))
  refine D_E rfl ?_
  refine Aa (Bz wd false) rfl ?_ ?_
  ·rintro v w2 ⟨_, hb, _⟩; cases hb
  rintro ch w2 ⟨rfl, hb, rfl⟩
  repeat refine nx rfl ?_
  exact AY ⟨rfl, k1.trans kd, by simp [nodeC, q3]⟩
 by_cases q4 : f.val ≤ (s.val : Int)
 case neg =>
  refine B3 (.read 0 (.read 1 (.read 2 (.read 3 (.read 4 (.read 5 (.read 6 (.read 7 (.read 8 (.read 9 (.read 10 (.read 11 (.read 12 (.read 13 (.alt 14 .done .stop))))))))))))))) BP (by kernel_rfl) (by repeat (first | exact BW | refine BI ?_)) (fun wd kd ed => ⟨Ext wd, ?_, ?_⟩)
  ·exact Ext.refl _
  have bd := b1.keep kd (by simp)
  have fa : ∀ W, Ext wd W → W.cell? ⟨b, o + 4, none⟩ = some (.slice a f.args.length c) := fun W e => ((k1.trans kd).trans e).cell (hcl 4 _ rfl) (by simp)
  have fb : ∀ W, Ext wd W → W.cell? ⟨b, o + 2, none⟩ = some (.int .i64 f.val) := fun W e => ((k1.trans kd).trans e).cell (hcl 2 _ rfl) (by simp)
  have fc : ∀ W, Ext wd W → W.cell? ⟨b, o + 3, none⟩ = some (.int .i64 f.bound) := fun W e => ((k1.trans kd).trans e).cell (hcl 3 _ rfl) (by simp)
  have g4 : ∀ W, Ext wd W → W.cell? ⟨w.heap.size, 0 + 4, none⟩ = some (.int .i64 (s.least : Int)) := fun W e => (bd.keep e (by simp)).cell rfl
  have g5 : ∀ W, Ext wd W → W.cell? ⟨w.heap.size, 0 + 5, none⟩ = some (.int .i64 (s.most : Int)) := fun W e => (bd.keep e (by simp)).cell rfl
  have g6 : ∀ W, Ext wd W → W.cell? ⟨w.heap.size, 0 + 6, none⟩ = some (.int .i64 (s.val : Int)) := fun W e => (bd.keep e (by simp)).cell rfl
  have g7 : ∀ W, Ext wd W → W.cell? ⟨w.heap.size, 0 + 7, none⟩ = some (.int .i64 (s.bound : Int)) := fun W e => (bd.keep e (by simp)).cell rfl
  refine D_R rfl rfl (fun W hW => AQ rfl Z3) (D_R rfl rfl (fun W hW => AH rfl Z3) (D_R rfl rfl (fun W hW => AD rfl Z3) (D_R rfl rfl (fun W hW => AG rfl (fb W hW) Z3) (D_geqT rfl rfl rfl rfl (by omega) (D_R rfl rfl (fun W hW => AB rfl Z3) (D_R rfl rfl (fun W hW => AE rfl (AQ rfl Z3)) (D_R rfl rfl (fun W hW => AE rfl (AH rfl Z3)) (D_R rfl rfl (fun W hW => AE rfl (AD rfl Z3)) (D_R rfl rfl (fun W hW => AE rfl (AG rfl (fb W hW) Z3)) (D_R rfl rfl (fun W hW => AE rfl (AD rfl Z3)) (D_R rfl rfl (fun W hW => AE rfl (AG rfl (g6 W hW) Z3)) (D_leqF rfl rfl rfl rfl (by omega) (D_R rfl rfl (fun W hW => AK rfl (AB rfl Z3)) ?_)))))))))))))
  refine D_E rfl ?_
  refine Aa (Bz wd false) rfl ?_ ?_
  ·rintro v w2 ⟨_, hb, _⟩; cases hb
  rintro ch w2 ⟨rfl, hb, rfl⟩
  repeat refine nx rfl ?_
  exact AY ⟨rfl, k1.trans kd, by simp [nodeC, q4]⟩
 refine B3 (.read 0 (.read 1 (.read 2 (.read 3 (.read 4 (.read 5 (.read 6 (.read 7 (.read 8 (.read 9 (.read 10 (.read 11 (.read 12 (.read 13 (.alt 14 .done .stop))))))))))))))) BP (by kernel_rfl) (by repeat (first | exact BW | refine BI ?_)) (fun wd kd ed => ⟨Ext wd, ?_, ?_⟩)
 ·exact Ext.refl _
 have bd := b1.keep kd (by simp)
 have fa : ∀ W, Ext wd W → W.cell? ⟨b, o + 4, none⟩ = some (.slice a f.args.length c) := fun W e => ((k1.trans kd).trans e).cell (hcl 4 _ rfl) (by simp)
 have fb : ∀ W, Ext wd W → W.cell? ⟨b, o + 2, none⟩ = some (.int .i64 f.val) := fun W e => ((k1.trans kd).trans e).cell (hcl 2 _ rfl) (by simp)
 have fc : ∀ W, Ext wd W → W.cell? ⟨b, o + 3, none⟩ = some (.int .i64 f.bound) := fun W e => ((k1.trans kd).trans e).cell (hcl 3 _ rfl) (by simp)
 have g4 : ∀ W, Ext wd W → W.cell? ⟨w.heap.size, 0 + 4, none⟩ = some (.int .i64 (s.least : Int)) := fun W e => (bd.keep e (by simp)).cell rfl
 have g5 : ∀ W, Ext wd W → W.cell? ⟨w.heap.size, 0 + 5, none⟩ = some (.int .i64 (s.most : Int)) := fun W e => (bd.keep e (by simp)).cell rfl
 have g6 : ∀ W, Ext wd W → W.cell? ⟨w.heap.size, 0 + 6, none⟩ = some (.int .i64 (s.val : Int)) := fun W e => (bd.keep e (by simp)).cell rfl
 have g7 : ∀ W, Ext wd W → W.cell? ⟨w.heap.size, 0 + 7, none⟩ = some (.int .i64 (s.bound : Int)) := fun W e => (bd.keep e (by simp)).cell rfl
 refine D_R rfl rfl (fun W hW => AQ rfl Z3) (D_R rfl rfl (fun W hW => AH rfl Z3) (D_R rfl rfl (fun W hW => AD rfl Z3) (D_R rfl rfl (fun W hW => AG rfl (fb W hW) Z3) (D_geqT rfl rfl rfl rfl (by omega) (D_R rfl rfl (fun W hW => AB rfl Z3) (D_R rfl rfl (fun W hW => AE rfl (AQ rfl Z3)) (D_R rfl rfl (fun W hW => AE rfl (AH rfl Z3)) (D_R rfl rfl (fun W hW => AE rfl (AD rfl Z3)) (D_R rfl rfl (fun W hW => AE rfl (AG rfl (fb W hW) Z3)) (D_R rfl rfl (fun W hW => AE rfl (AD rfl Z3)) (D_R rfl rfl (fun W hW => AE rfl (AG rfl (g6 W hW) Z3)) (D_leqT rfl rfl rfl rfl (by omega) (D_R rfl rfl (fun W hW => AK rfl (AB rfl Z3)) ?_)))))))))))))
 refine D_E rfl ?_
 refine Aa (Bz wd true) rfl ?_ ?_
 rotate_left
 ·rintro ch w2 ⟨_, hb, _⟩; cases hb
 rintro v w2 ⟨rfl, hb, rfl⟩
 refine AJ ⟨Ext w2, fun _ e => e, Ext.refl _, ?_⟩
 refine A8 ?_
 repeat refine nx rfl ?_
 replace k1 := k1.trans kd
 clear fa fb fc g4 g5 g6 g7 kd ed b1
 have b1 := bd
 clear bd
 by_cases q5 : 0 ≤ f.bound
 case neg =>
  refine B3 (.read 0 (.read 1 (.read 2 (.read 3 (.read 4 (.read 5 (.read 6 (.read 7 (.read 8 (.read 9 (.read 10 (.read 11 (.read 12 (.read 13 (.alt 14 .done .stop))))))))))))))) BP (by kernel_rfl) (by repeat (first | exact BW | refine BI ?_)) (fun wd kd ed => ⟨Ext wd, ?_, ?_⟩)
  ·exact Ext.refl _
  have bd := b1.keep kd (by simp)
  have fa : ∀ W, Ext wd W → W.cell? ⟨b, o + 4, none⟩ = some (.slice a f.args.length c) := fun W e => ((k1.trans kd).trans e).cell (hcl 4 _ rfl) (by simp)
  have fb : ∀ W, Ext wd W → W.cell? ⟨b, o + 2, none⟩ = some (.int .i64 f.val) := fun W e => ((k1.trans kd).trans e).cell (hcl 2 _ rfl) (by simp)
  have fc : ∀ W, Ext wd W → W.cell? ⟨b, o + 3, none⟩ = some (.int .i64 f.bound) := fun W e => ((k1.trans kd).trans e).cell (hcl 3 _ rfl) (by simp)
  have g4 : ∀ W, Ext wd W → W.cell? ⟨w.heap.size, 0 + 4, none⟩ = some (.int .i64 (s.least : Int)) := fun W e => (bd.keep e (by simp)).cell rfl
  have g5 : ∀ W, Ext wd W → W.cell? ⟨w.heap.size, 0 + 5, none⟩ = some (.int .i64 (s.most : Int)) := fun W e => (bd.keep e (by simp)).cell rfl
  have g6 : ∀ W, Ext wd W → W.cell? ⟨w.heap.size, 0 + 6, none⟩ = some (.int .i64 (s.val : Int)) := fun W e => (bd.keep e (by simp)).cell rfl
  have g7 : ∀ W, Ext wd W → W.cell? ⟨w.heap.size, 0 + 7, none⟩ = some (.int .i64 (s.bound : Int)) := fun W e => (bd.keep e (by simp)).cell rfl
  refine D_R rfl rfl (fun W hW => AQ rfl Z3) (D_R rfl rfl (fun W hW => AH rfl Z3) (D_R rfl rfl (fun W hW => AD rfl Z3) (D_R rfl rfl (fun W hW => AG rfl (fc W hW) Z3) (D_geqF rfl rfl rfl rfl (by omega) (D_R rfl rfl (fun W hW => AB rfl Z3) (Af rfl rfl rfl rfl (Af rfl rfl rfl rfl (Af rfl rfl rfl rfl (Af rfl rfl rfl rfl (Af rfl rfl rfl rfl (Af rfl rfl rfl rfl (Af rfl rfl rfl rfl (D_R rfl rfl (fun W hW => AP rfl (AB rfl Z3)) ?_)))))))))))))
  refine D_E rfl ?_
  refine Aa (Bz wd false) rfl ?_ ?_
  ·rintro v w2 ⟨_, hb, _⟩; cases hb
  rintro ch w2 ⟨rfl, hb, rfl⟩
  repeat refine nx rfl ?_
  exact AY ⟨rfl, k1.trans kd, by simp [nodeC, q5]⟩
 by_cases q6 : f.bound ≤ (s.bound : Int)
 case neg =>
  refine B3 (.read 0 (.read 1 (.read 2 (.read 3 (.read 4 (.read 5 (.read 6 (.read 7 (.read 8 (.read 9 (.read 10 (.read 11 (.read 12 (.read 13 (.alt 14 .done .stop))))))))))))))) BP (by kernel_rfl) (by repeat (first | exact BW | refine BI ?_)) (fun wd kd ed => ⟨Ext wd, ?_, ?_⟩)
  ·exact Ext.refl _
  have bd := b1.keep kd (by simp)
  have fa : ∀ W, Ext wd W → W.cell? ⟨b, o + 4, none⟩ = some (.slice a f.args.length c) := fun W e => ((k1.trans kd).trans e).cell (hcl 4 _ rfl) (by simp)
  have fb : ∀ W, Ext wd W → W.cell? ⟨b, o + 2, none⟩ = some (.int .i64 f.val) := fun W e => ((k1.trans kd).trans e).cell (hcl 2 _ rfl) (by simp)
  have fc : ∀ W, Ext wd W → W.cell? ⟨b, o + 3, none⟩ = some (.int .i64 f.bound) := fun W e => ((k1.trans kd).trans e).cell (hcl 3 _ rfl) (by simp)
  have g4 : ∀ W, Ext wd W → W.cell? ⟨w.heap.size, 0 + 4, none⟩ = some (.int .i64 (s.least : Int)) := fun W e => (bd.keep e (by simp)).cell rfl
  have g5 : ∀ W, Ext wd W → W.cell? ⟨w.heap.size, 0 + 5, none⟩ = some (.int .i64 (s.most : Int)) := fun W e => (bd.keep e (by simp)).cell rfl
  have g6 : ∀ W, Ext wd W → W.cell? ⟨w.heap.size, 0 + 6, none⟩ = some (.int .i64 (s.val : Int)) := fun W e => (bd.keep e (by simp)).cell rfl
  have g7 : ∀ W, Ext wd W → W.cell? ⟨w.heap.size, 0 + 7, none⟩ = some (.int .i64 (s.bound : Int)) := fun W e => (bd.keep e (by simp)).cell rfl
  refine D_R rfl rfl (fun W hW => AQ rfl Z3) (D_R rfl rfl (fun W hW => AH rfl Z3) (D_R rfl rfl (fun W hW => AD rfl Z3) (D_R rfl rfl (fun W hW => AG rfl (fc W hW) Z3) (D_geqT rfl rfl rfl rfl (by omega) (D_R rfl rfl (fun W hW => AB rfl Z3) (D_R rfl rfl (fun W hW => AE rfl (AQ rfl Z3)) (D_R rfl rfl (fun W hW => AE rfl (AH rfl Z3)) (D_R rfl rfl (fun W hW => AE rfl (AD rfl Z3)) (D_R rfl rfl (fun W hW => AE rfl (AG rfl (fc W hW) Z3)) (D_R rfl rfl (fun W hW => AE rfl (AD rfl Z3)) (D_R rfl rfl (fun W hW => AE rfl (AG rfl (g7 W hW) Z3)) (D_leqF rfl rfl rfl rfl (by omega) (D_R rfl rfl (fun W hW => AK rfl (AB rfl Z3)) ?_)))))))))))))
  refine D_E rfl ?_
  refine Aa (Bz wd false) rfl ?_ ?_
  ·rintro v w2 ⟨_, hb, _⟩; cases hb
  rintro ch w2 ⟨rfl, hb, rfl⟩
  repeat refine nx rfl ?_
  exact AY ⟨rfl, k1.trans kd, by simp [nodeC, q6]⟩
 refine B3 (.read 0 (.read 1 (.read 2 (.read 3 (.read 4 (.read 5 (.read 6 (.read 7 (.read 8 (.read 9 (.read 10 (.read 11 (.read 12 (.read 13 (.alt 14 .done .stop))))))))))))))) BP (by kernel_rfl) (by repeat (first | exact BW | refine BI ?_)) (fun wd kd ed => ⟨Ext wd, ?_, ?_⟩)
 ·exact Ext.refl _
 have bd := b1.keep kd (by simp)
 have fa : ∀ W, Ext wd W → W.cell? ⟨b, o + 4, none⟩ = some (.slice a f.args.length c) := fun W e => ((k1.trans kd).trans e).cell (hcl 4 _ rfl) (by simp)
 have fb : ∀ W, Ext wd W → W.cell? ⟨b, o + 2, none⟩ = some (.int .i64 f.val) := fun W e => ((k1.trans kd).trans e).cell (hcl 2 _ rfl) (by simp)
 have fc : ∀ W, Ext wd W → W.cell? ⟨b, o + 3, none⟩ = some (.int .i64 f.bound) := fun W e => ((k1.trans kd).trans e).cell (hcl 3 _ rfl) (by simp)
 have g4 : ∀ W, Ext wd W → W.cell? ⟨w.heap.size, 0 + 4, none⟩ = some (.int .i64 (s.least : Int)) := fun W e => (bd.keep e (by simp)).cell rfl
 have g5 : ∀ W, Ext wd W → W.cell? ⟨w.heap.size, 0 + 5, none⟩ = some (.int .i64 (s.most : Int)) := fun W e => (bd.keep e (by simp)).cell rfl
 have g6 : ∀ W, Ext wd W → W.cell? ⟨w.heap.size, 0 + 6, none⟩ = some (.int .i64 (s.val : Int)) := fun W e => (bd.keep e (by simp)).cell rfl
 have g7 : ∀ W, Ext wd W → W.cell? ⟨w.heap.size, 0 + 7, none⟩ = some (.int .i64 (s.bound : Int)) := fun W e => (bd.keep e (by simp)).cell rfl
 refine D_R rfl rfl (fun W hW => AQ rfl Z3) (D_R rfl rfl (fun W hW => AH rfl Z3) (D_R rfl rfl (fun W hW => AD rfl Z3) (D_R rfl rfl (fun W hW => AG rfl (fc W hW) Z3) (D_geqT rfl rfl rfl rfl (by omega) (D_R rfl rfl (fun W hW => AB rfl Z3) (D_R rfl rfl (fun W hW => AE rfl (AQ rfl Z3)) (D_R rfl rfl (fun W hW => AE rfl (AH rfl Z3)) (D_R rfl rfl (fun W hW => AE rfl (AD rfl Z3)) (D_R rfl rfl (fun W hW => AE rfl (AG rfl (fc W hW) Z3)) (D_R rfl rfl (fun W hW => AE rfl (AD rfl Z3)) (D_R rfl rfl (fun W hW => AE rfl (AG rfl (g7 W hW) Z3)) (D_leqT rfl rfl rfl rfl (by omega) (D_R rfl rfl (fun W hW => AK rfl (AB rfl Z3)) ?_)))))))))))))
 refine D_E rfl ?_
 refine Aa (Bz wd true) rfl ?_ ?_
 rotate_left
 ·rintro ch w2 ⟨_, hb, _⟩; cases hb
 rintro v w2 ⟨rfl, hb, rfl⟩
 refine AJ ⟨Ext w2, fun _ e => e, Ext.refl _, ?_⟩
 refine A8 ?_
 repeat refine nx rfl ?_
 replace k1 := k1.trans kd
 clear fa fb fc g4 g5 g6 g7 kd ed b1
 have b1 := bd
 clear bd
 have fo := k1.cell (hcl 0 _ rfl) (by simp)
 have fn := k1.cell (hcl 1 _ rfl) (by simp)
 by_cases q7 : f.op = 3
 ·(refine AA (AQ rfl (AH rfl (AD rfl (AG rfl (by assumption) ?_)))) <;> refine Av rfl rfl (by omega) (AB rfl (AI rfl (AI rfl (AI rfl (AI rfl (AI rfl (AK rfl (AB rfl ?_)))))))))
  refine Aa (Bz _ true) rfl ?_ ?_
  rotate_left
  ·rintro ch w2 ⟨_, hb, _⟩; cases hb
  rintro v w2 ⟨rfl, hb, rfl⟩
  repeat refine nx rfl ?_
  exact A1 rfl ⟨rfl, k1, by simp [nodeC, q1, q2, q3, q4, q5, q6, q7]⟩
 by_cases q8 : f.name = []
 ·(refine AA (AQ rfl (AH rfl (AD rfl (AG rfl (by assumption) ?_)))) <;> refine AN rfl rfl (by omega) (AB rfl (AE rfl (AQ rfl (AE rfl (AH rfl (AE rfl (AD rfl (AE rfl (AG rfl (by assumption) ?_))))))))) <;> (refine AE rfl ?_; refine CM rfl rfl (fun hc => ?_) (fun hc => ?_)) <;> refine AP rfl (AB rfl ?_))
  case refine_2 => exact absurd q8 (by assumption)
  refine Aa (Bz _ true) rfl ?_ ?_
  rotate_left
  ·rintro ch w2 ⟨_, hb, _⟩; cases hb
  rintro v w2 ⟨rfl, hb, rfl⟩
  repeat refine nx rfl ?_
  exact A1 rfl ⟨rfl, k1, by simp [nodeC, q1, q2, q3, q4, q5, q6, q8]⟩
 ·(refine AA (AQ rfl (AH rfl (AD rfl (AG rfl (by assumption) ?_)))) <;> refine AN rfl rfl (by omega) (AB rfl (AE rfl (AQ rfl (AE rfl (AH rfl (AE rfl (AD rfl (AE rfl (AG rfl (by assumption) ?_))))))))) <;> (refine AE rfl ?_; refine CM rfl rfl (fun hc => ?_) (fun hc => ?_)) <;> refine AP rfl (AB rfl ?_))
  case refine_1 => exact absurd (by assumption) q8
  refine Aa (Bz _ false) rfl ?_ ?_
  ·rintro v w2 ⟨_, hb, _⟩; cases hb
  rintro ch w2 ⟨rfl, hb, rfl⟩
  repeat refine nx rfl ?_
  exact AY ⟨rfl, k1, by simp [nodeC, q7, q8]⟩
end Go.Proofs.YtfcgdbmoncnibaaGreatDoor
namespace Go.Proofs.YtfcgdbmoncnibaaGreatDoor
open Go.RowKit
set_option linter.unusedVariables false
theorem numT_len {n : Int} (h : n ≤ 9999) : (CI n).length ≤ 4 := digs_len (by omega)
theorem numB_of {n : Int} (h0 : 0 ≤ n) (h1 : n ≤ 9999) : numB n = true := by simp [numB, h0, h1]
theorem signOf_ok (w : World) (s : Sty) (b o : Nat) (f : Fml) (av : Value) (hcl : Cells w b o (fcC f av)) (hs : Bc f.op = some s) (hok : nodeC s f = true) (hG : GP w) :
  FnP Tryz.prog 124 [Bj s, .pointer (some ⟨b, o, none⟩)] w (fun v w' => v = AL (sgT f.op f.name f.val f.bound) ∧ Ext w w' ∧ (f.op = 3 → BV f.name = true)) (fun ch w' => ch = unp ∧ Ext w w' ∧ f.op = 3 ∧ BV f.name = false) := by
 have hsg : s.sign.length ≤ 5 := by
  rcases op_cases hs with h | h | h | h | h | h | h | h | h | h | h | h | h | h | h | h | h | h | h <;> rw [h] at hs <;> simp [Bc, styL, List.lookup] at hs <;> subst hs <;> decide
 have esd : Bh f.op = s := by unfold Bh; rw [hs]; rfl
 simp only [nodeC, Bool.and_eq_true, decide_eq_true_eq] at hok
 obtain ⟨⟨⟨_, h1, h2⟩, h3, h4⟩, _⟩ := hok
 refine Ar Tryz.func124 rfl Tryz.ntmps124 (Nat.le_of_ble_eq_true rfl) (by kernel_rfl) ?_
 repeat refine nx rfl ?_
 (refine AA ?_; refine Bq (L := CN s) rfl (fun w1 n1 => ?_))
 have b1 := n1.blk
 have k1 := n1.keep
 have fo := k1.cell (hcl 0 _ rfl) (by simp)
 refine AC (AU rfl ?_)
 repeat refine nx rfl ?_
 (refine AA (AQ rfl (AH rfl (AD rfl (AG rfl (by assumption) ?_)))))
 repeat refine nx rfl ?_
 by_cases o3 : f.op = 3
 ·have hs3 := hs
  rw [o3] at hs3
  simp [Bc, styL, List.lookup] at hs3
  have hu : s.usual = 1 := by rw [← hs3]
  have hv : s.val = 9999 := by rw [← hs3]
  have hg : s.sign = [61] := by rw [← hs3]
  refine AA (Av rfl rfl (by omega) (AC (AB rfl ?_)))
  repeat refine nx rfl ?_
  by_cases hv1 : f.val = 1
  ·refine B3 (.read 0 (.read 1 (.read 2 (.read 3 (.read 4 (.read 5 (.read 6 .done))))))) BP (by kernel_rfl) (by repeat (first | exact BW | refine BI ?_ | refine Bw ?_)) (fun wd kd ed => ⟨Ext wd, ?_, ?_⟩)
   ·exact Ext.refl _
   have bd := b1.keep kd (by simp)
   have fn : ∀ W, Ext wd W → W.cell? ⟨b, o + 1, none⟩ = some (AL f.name) := fun W e => ((k1.trans kd).trans e).cell (hcl 1 _ rfl) (by simp)
   have fv : ∀ W, Ext wd W → W.cell? ⟨b, o + 2, none⟩ = some (.int .i64 f.val) := fun W e => ((k1.trans kd).trans e).cell (hcl 2 _ rfl) (by simp)
   have fb : ∀ W, Ext wd W → W.cell? ⟨b, o + 3, none⟩ = some (.int .i64 f.bound) := fun W e => ((k1.trans kd).trans e).cell (hcl 3 _ rfl) (by simp)
   have g0 : ∀ W, Ext wd W → W.cell? ⟨w.heap.size, 0 + 0, none⟩ = some (AL s.sign) := fun W e => (bd.keep e (by simp)).cell rfl
   have g8 : ∀ W, Ext wd W → W.cell? ⟨w.heap.size, 0 + 8, none⟩ = some (.int .i64 (s.usual : Int)) := fun W e => (bd.keep e (by simp)).cell rfl
   refine D_R rfl rfl (fun W hW => AQ rfl Z3) (D_R rfl rfl (fun W hW => AH rfl Z3) (D_R rfl rfl (fun W hW => AD rfl Z3) (D_R rfl rfl (fun W hW => AG rfl (fv W hW) Z3) (D_R rfl rfl (fun W hW => AD rfl Z3) (D_R rfl rfl (fun W hW => AG rfl (g8 W hW) Z3) (D_eqlT rfl rfl rfl rfl (by omega) (A8 ?_)))))))
   repeat refine nx rfl ?_
   have fn1 := fn _ (Ext.refl _)
   refine AA (AQ rfl (AH rfl (AD rfl (AG rfl (by assumption) ?_))))
   refine Aa (wname_ok _ f.name (hG.gk.ext (k1.trans kd))) rfl ?_ ?_
   rotate_left
   ·rintro ch w2 ⟨rfl, hb, rfl⟩
    repeat refine nx rfl ?_
    exact AY ⟨rfl, k1.trans kd, o3, hb⟩
   rintro v w2 ⟨rfl, hb, rfl⟩
   refine AC (AU rfl ?_)
   repeat refine nx rfl ?_
   have e : sgT f.op f.name f.val f.bound = f.name := by simp [sgT, o3, hv1]
   exact AO rfl ⟨by rw [e]; rfl, k1.trans kd, fun _ => hb⟩
  ·refine B3 (.read 0 (.read 1 (.read 2 (.read 3 (.read 4 (.read 5 (.read 6 .done))))))) BP (by kernel_rfl) (by repeat (first | exact BW | refine BI ?_ | refine Bw ?_)) (fun wd kd ed => ⟨Ext wd, ?_, ?_⟩)
   ·exact Ext.refl _
   have bd := b1.keep kd (by simp)
   have fn : ∀ W, Ext wd W → W.cell? ⟨b, o + 1, none⟩ = some (AL f.name) := fun W e => ((k1.trans kd).trans e).cell (hcl 1 _ rfl) (by simp)
   have fv : ∀ W, Ext wd W → W.cell? ⟨b, o + 2, none⟩ = some (.int .i64 f.val) := fun W e => ((k1.trans kd).trans e).cell (hcl 2 _ rfl) (by simp)
   have fb : ∀ W, Ext wd W → W.cell? ⟨b, o + 3, none⟩ = some (.int .i64 f.bound) := fun W e => ((k1.trans kd).trans e).cell (hcl 3 _ rfl) (by simp)
   have g0 : ∀ W, Ext wd W → W.cell? ⟨w.heap.size, 0 + 0, none⟩ = some (AL s.sign) := fun W e => (bd.keep e (by simp)).cell rfl
   have g8 : ∀ W, Ext wd W → W.cell? ⟨w.heap.size, 0 + 8, none⟩ = some (.int .i64 (s.usual : Int)) := fun W e => (bd.keep e (by simp)).cell rfl
   refine D_R rfl rfl (fun W hW => AQ rfl Z3) (D_R rfl rfl (fun W hW => AH rfl Z3) (D_R rfl rfl (fun W hW => AD rfl Z3) (D_R rfl rfl (fun W hW => AG rfl (fv W hW) Z3) (D_R rfl rfl (fun W hW => AD rfl Z3) (D_R rfl rfl (fun W hW => AG rfl (g8 W hW) Z3) (D_eqlF rfl rfl rfl rfl (by omega) (A8 ?_)))))))
   repeat first | refine nx rfl ?_ | refine nf rfl ?_
   replace k1 := k1.trans kd
   replace b1 := bd
   clear fn fv fb g0 g8 bd kd ed
   refine B3 (.read 0 (.read 1 (.read 2 (.read 3 (.read 5 (.read 6 (.read 8 (.read 9 (.read 10 (.read 11 (.alt 4 (.read 7 (.alt 12 (.read 13 (.read 14 .done)) .stop)) .stop))))))))))) BP (by kernel_rfl) (by repeat (first | exact BW | refine BI ?_ | refine Bw ?_)) (fun wd kd ed => ⟨Ext wd, ?_, ?_⟩)
   ·exact Ext.refl _
   have bd := b1.keep kd (by simp)
   have fn : ∀ W, Ext wd W → W.cell? ⟨b, o + 1, none⟩ = some (AL f.name) := fun W e => ((k1.trans kd).trans e).cell (hcl 1 _ rfl) (by simp)
   have fv : ∀ W, Ext wd W → W.cell? ⟨b, o + 2, none⟩ = some (.int .i64 f.val) := fun W e => ((k1.trans kd).trans e).cell (hcl 2 _ rfl) (by simp)
   have fb : ∀ W, Ext wd W → W.cell? ⟨b, o + 3, none⟩ = some (.int .i64 f.bound) := fun W e => ((k1.trans kd).trans e).cell (hcl 3 _ rfl) (by simp)
   have g0 : ∀ W, Ext wd W → W.cell? ⟨w.heap.size, 0 + 0, none⟩ = some (AL s.sign) := fun W e => (bd.keep e (by simp)).cell rfl
   have g8 : ∀ W, Ext wd W → W.cell? ⟨w.heap.size, 0 + 8, none⟩ = some (.int .i64 (s.usual : Int)) := fun W e => (bd.keep e (by simp)).cell rfl
   refine D_R rfl rfl (fun W hW => AQ rfl Z3) (D_R rfl rfl (fun W hW => AH rfl Z3) (D_R rfl rfl (fun W hW => AD rfl Z3) (D_R rfl rfl (fun W hW => AG rfl (fn W hW) Z3) (D_R rfl rfl (fun W hW => AD rfl Z3) (D_R rfl rfl (fun W hW => AG rfl (g0 W hW) Z3) (D_R rfl rfl (fun W hW => AQ rfl Z3) (D_R rfl rfl (fun W hW => AH rfl Z3) (D_R rfl rfl (fun W hW => AD rfl Z3) (D_R rfl rfl (fun W hW => AG rfl (fv W hW) Z3) ?_)))))))))
   refine D_E rfl ?_
   refine Aa (wname_ok wd f.name (hG.gk.ext (k1.trans kd))) rfl ?_ ?_
   rotate_left
   ·rintro ch w2 ⟨rfl, hb, rfl⟩
    repeat refine nx rfl ?_
    exact AY ⟨rfl, k1.trans kd, o3, hb⟩
   rintro v w2 ⟨rfl, hb, rfl⟩
   have hnl := (Bf hb).2.1
   refine AJ ⟨Ext w2, fun _ e => e, Ext.refl _, ?_⟩
   (apply D_R rfl rfl; (intro W hW; (refine DU rfl rfl (by (try simp); omega) ?_); exact AJ ⟨rfl, rfl, rfl⟩))
   refine D_E rfl ?_
   refine Aa (wnumber_ok w2 f.val (hG.ext (k1.trans kd))) rfl ?_ ?_
   rotate_left
   ·rintro ch w3 ⟨rfl, hb2, rfl⟩
    rw [numB_of h1 (by omega)] at hb2; cases hb2
   rintro v w3 ⟨rfl, _, k3⟩
   have hnn := numT_len (n := f.val) (by omega)
   refine AJ ⟨Ext w3, fun _ e => k3.trans e, Ext.refl _, ?_⟩
   (apply D_R rfl rfl; (intro W hW; (refine DU rfl rfl (by (try simp); omega) ?_); exact AJ ⟨rfl, rfl, rfl⟩))
   refine D_R rfl rfl (fun W hW => AC (AU rfl Z3)) (A8 ?_)
   repeat refine nx rfl ?_
   have e : sgT f.op f.name f.val f.bound = f.name ++ s.sign ++ CI f.val := by simp [sgT, o3, hv1, hg]
   exact AO rfl ⟨by rw [e]; rfl, (k1.trans kd).trans k3, fun _ => hb⟩
 by_cases o13 : f.op = 13 ∨ f.op = 14
 ·have hbd : s.bound = 9999 := by
   rcases o13 with h | h <;> rw [h] at hs <;> simp [Bc, styL, List.lookup] at hs <;> rw [← hs]
  have fin8 : sgT f.op f.name f.val f.bound = s.sign ++ CI f.bound ++ [93, 32] := by simp [sgT, o3, o13, esd]
  refine AA (AN rfl rfl (by omega) (AC (AB rfl ?_)))
  repeat first | refine nx rfl ?_ | refine nf rfl ?_
  rcases o13 with h13 | h14
  ·refine AA (Av rfl rfl (by omega) (AC (AB rfl ?_)))
   repeat refine nx rfl ?_
   refine B3 (.read 0 (.read 1 (.read 2 (.read 3 (.read 4 (.read 5 (.alt 6 (.read 7 (.read 8 (.read 9 .done))) .stop))))))) BP (by kernel_rfl) (by repeat (first | exact BW | refine BI ?_ | refine Bw ?_)) (fun wd kd ed => ⟨Ext wd, ?_, ?_⟩)
   ·exact Ext.refl _
   have bd := b1.keep kd (by simp)
   have fn : ∀ W, Ext wd W → W.cell? ⟨b, o + 1, none⟩ = some (AL f.name) := fun W e => ((k1.trans kd).trans e).cell (hcl 1 _ rfl) (by simp)
   have fv : ∀ W, Ext wd W → W.cell? ⟨b, o + 2, none⟩ = some (.int .i64 f.val) := fun W e => ((k1.trans kd).trans e).cell (hcl 2 _ rfl) (by simp)
   have fb : ∀ W, Ext wd W → W.cell? ⟨b, o + 3, none⟩ = some (.int .i64 f.bound) := fun W e => ((k1.trans kd).trans e).cell (hcl 3 _ rfl) (by simp)
   have g0 : ∀ W, Ext wd W → W.cell? ⟨w.heap.size, 0 + 0, none⟩ = some (AL s.sign) := fun W e => (bd.keep e (by simp)).cell rfl
   have g8 : ∀ W, Ext wd W → W.cell? ⟨w.heap.size, 0 + 8, none⟩ = some (.int .i64 (s.usual : Int)) := fun W e => (bd.keep e (by simp)).cell rfl
   refine D_R rfl rfl (fun W hW => AD rfl Z3) (D_R rfl rfl (fun W hW => AG rfl (g0 W hW) Z3) (D_R rfl rfl (fun W hW => AQ rfl Z3) (D_R rfl rfl (fun W hW => AH rfl Z3) (D_R rfl rfl (fun W hW => AD rfl Z3) (D_R rfl rfl (fun W hW => AG rfl (fb W hW) Z3) ?_)))))
   refine D_E rfl ?_
   refine Aa (wnumber_ok wd f.bound (hG.ext (k1.trans kd))) rfl ?_ ?_
   rotate_left
   ·rintro ch w3 ⟨rfl, hb2, rfl⟩
    rw [numB_of h3 (by omega)] at hb2; cases hb2
   rintro v w3 ⟨rfl, _, k3⟩
   have hnn := numT_len (n := f.bound) (by omega)
   refine AJ ⟨Ext w3, fun _ e => k3.trans e, Ext.refl _, ?_⟩
   (apply D_R rfl rfl; (intro W hW; (refine DU rfl rfl (by (try simp); omega) ?_); exact AJ ⟨rfl, rfl, rfl⟩))
   (apply D_R rfl rfl; (intro W hW; (refine DU rfl rfl (by (try simp); omega) ?_); exact AJ ⟨rfl, rfl, rfl⟩))
   refine D_R rfl rfl (fun W hW => AC (AU rfl Z3)) (A8 ?_)
   repeat refine nx rfl ?_
   exact AO rfl ⟨by rw [fin8]; rfl, (k1.trans kd).trans k3, fun h => absurd h o3⟩
  ·refine AA (AN rfl rfl (by omega) (AC (AB rfl ?_)))
   repeat first | refine nx rfl ?_ | refine nf rfl ?_
   refine AA (Av rfl rfl (by omega) (AC (AB rfl ?_)))
   repeat refine nx rfl ?_
   refine B3 (.read 0 (.read 1 (.read 2 (.read 3 (.read 4 (.read 5 (.alt 6 (.read 7 (.read 8 (.read 9 .done))) .stop))))))) BP (by kernel_rfl) (by repeat (first | exact BW | refine BI ?_ | refine Bw ?_)) (fun wd kd ed => ⟨Ext wd, ?_, ?_⟩)
   ·exact Ext.refl _
   have bd := b1.keep kd (by simp)
   have fn : ∀ W, Ext wd W → W.cell? ⟨b, o + 1, none⟩ = some (AL f.name) := fun W e => ((k1.trans kd).trans e).cell (hcl 1 _ rfl) (by simp)
   have fv : ∀ W, Ext wd W → W.cell? ⟨b, o + 2, none⟩ = some (.int .i64 f.val) := fun W e => ((k1.trans kd).trans e).cell (hcl 2 _ rfl) (by simp)
   have fb : ∀ W, Ext wd W → W.cell? ⟨b, o + 3, none⟩ = some (.int .i64 f.bound) := fun W e => ((k1.trans kd).trans e).cell (hcl 3 _ rfl) (by simp)
   have g0 : ∀ W, Ext wd W → W.cell? ⟨w.heap.size, 0 + 0, none⟩ = some (AL s.sign) := fun W e => (bd.keep e (by simp)).cell rfl
   have g8 : ∀ W, Ext wd W → W.cell? ⟨w.heap.size, 0 + 8, none⟩ = some (.int .i64 (s.usual : Int)) := fun W e => (bd.keep e (by simp)).cell rfl
   refine D_R rfl rfl (fun W hW => AD rfl Z3) (D_R rfl rfl (fun W hW => AG rfl (g0 W hW) Z3) (D_R rfl rfl (fun W hW => AQ rfl Z3) (D_R rfl rfl (fun W hW => AH rfl Z3) (D_R rfl rfl (fun W hW => AD rfl Z3) (D_R rfl rfl (fun W hW => AG rfl (fb W hW) Z3) ?_)))))
   refine D_E rfl ?_
   refine Aa (wnumber_ok wd f.bound (hG.ext (k1.trans kd))) rfl ?_ ?_
   rotate_left
   ·rintro ch w3 ⟨rfl, hb2, rfl⟩
    rw [numB_of h3 (by omega)] at hb2; cases hb2
   rintro v w3 ⟨rfl, _, k3⟩
   have hnn := numT_len (n := f.bound) (by omega)
   refine AJ ⟨Ext w3, fun _ e => k3.trans e, Ext.refl _, ?_⟩
   (apply D_R rfl rfl; (intro W hW; (refine DU rfl rfl (by (try simp); omega) ?_); exact AJ ⟨rfl, rfl, rfl⟩))
   (apply D_R rfl rfl; (intro W hW; (refine DU rfl rfl (by (try simp); omega) ?_); exact AJ ⟨rfl, rfl, rfl⟩))
   refine D_R rfl rfl (fun W hW => AC (AU rfl Z3)) (A8 ?_)
   repeat refine nx rfl ?_
   exact AO rfl ⟨by rw [fin8]; rfl, (k1.trans kd).trans k3, fun h => absurd h o3⟩
 by_cases o15 : f.op = 15
 ·have hs15 := hs
  rw [o15] at hs15
  simp [Bc, styL, List.lookup] at hs15
  have hu : s.usual = 0 := by rw [← hs15]
  have hg : s.sign = [89, 32] := by rw [← hs15]
  refine AA (AN rfl rfl (by omega) (AC (AB rfl ?_)))
  repeat first | refine nx rfl ?_ | refine nf rfl ?_
  refine AA (AN rfl rfl (by omega) (AC (AB rfl ?_)))
  repeat first | refine nx rfl ?_ | refine nf rfl ?_
  refine AA (AN rfl rfl (by omega) (AC (AB rfl ?_)))
  repeat first | refine nx rfl ?_ | refine nf rfl ?_
  refine AA (Av rfl rfl (by omega) (AC (AB rfl ?_)))
  repeat refine nx rfl ?_
  by_cases hv0 : f.val = 0
  ·refine B3 (.read 0 (.read 1 (.read 2 (.read 3 (.read 4 (.read 5 (.read 6 .done))))))) BP (by kernel_rfl) (by repeat (first | exact BW | refine BI ?_ | refine Bw ?_)) (fun wd kd ed => ⟨Ext wd, ?_, ?_⟩)
   ·exact Ext.refl _
   have bd := b1.keep kd (by simp)
   have fn : ∀ W, Ext wd W → W.cell? ⟨b, o + 1, none⟩ = some (AL f.name) := fun W e => ((k1.trans kd).trans e).cell (hcl 1 _ rfl) (by simp)
   have fv : ∀ W, Ext wd W → W.cell? ⟨b, o + 2, none⟩ = some (.int .i64 f.val) := fun W e => ((k1.trans kd).trans e).cell (hcl 2 _ rfl) (by simp)
   have fb : ∀ W, Ext wd W → W.cell? ⟨b, o + 3, none⟩ = some (.int .i64 f.bound) := fun W e => ((k1.trans kd).trans e).cell (hcl 3 _ rfl) (by simp)
   have g0 : ∀ W, Ext wd W → W.cell? ⟨w.heap.size, 0 + 0, none⟩ = some (AL s.sign) := fun W e => (bd.keep e (by simp)).cell rfl
   have g8 : ∀ W, Ext wd W → W.cell? ⟨w.heap.size, 0 + 8, none⟩ = some (.int .i64 (s.usual : Int)) := fun W e => (bd.keep e (by simp)).cell rfl
   refine D_R rfl rfl (fun W hW => AQ rfl Z3) (D_R rfl rfl (fun W hW => AH rfl Z3) (D_R rfl rfl (fun W hW => AD rfl Z3) (D_R rfl rfl (fun W hW => AG rfl (fv W hW) Z3) (D_R rfl rfl (fun W hW => AD rfl Z3) (D_R rfl rfl (fun W hW => AG rfl (g8 W hW) Z3) (D_neqF rfl rfl rfl rfl (by omega) (A8 ?_)))))))
   repeat first | refine nx rfl ?_ | refine nf rfl ?_
   have g1 := g0 _ (Ext.refl _)
   (refine AA (AD rfl (AG rfl (Blk.cell (by assumption) (by rfl)) ?_)) <;> refine AC (AU rfl ?_))
   repeat refine nx rfl ?_
   have e : sgT f.op f.name f.val f.bound = s.sign := by simp [sgT, o15, hv0, hg]
   exact AO rfl ⟨by rw [e]; rfl, k1.trans kd, fun h => absurd h o3⟩
  ·refine B3 (.read 0 (.read 1 (.read 2 (.read 3 (.read 4 (.read 5 (.read 6 .done))))))) BP (by kernel_rfl) (by repeat (first | exact BW | refine BI ?_ | refine Bw ?_)) (fun wd kd ed => ⟨Ext wd, ?_, ?_⟩)
   ·exact Ext.refl _
   have bd := b1.keep kd (by simp)
   have fn : ∀ W, Ext wd W → W.cell? ⟨b, o + 1, none⟩ = some (AL f.name) := fun W e => ((k1.trans kd).trans e).cell (hcl 1 _ rfl) (by simp)
   have fv : ∀ W, Ext wd W → W.cell? ⟨b, o + 2, none⟩ = some (.int .i64 f.val) := fun W e => ((k1.trans kd).trans e).cell (hcl 2 _ rfl) (by simp)
   have fb : ∀ W, Ext wd W → W.cell? ⟨b, o + 3, none⟩ = some (.int .i64 f.bound) := fun W e => ((k1.trans kd).trans e).cell (hcl 3 _ rfl) (by simp)
   have g0 : ∀ W, Ext wd W → W.cell? ⟨w.heap.size, 0 + 0, none⟩ = some (AL s.sign) := fun W e => (bd.keep e (by simp)).cell rfl
   have g8 : ∀ W, Ext wd W → W.cell? ⟨w.heap.size, 0 + 8, none⟩ = some (.int .i64 (s.usual : Int)) := fun W e => (bd.keep e (by simp)).cell rfl
   refine D_R rfl rfl (fun W hW => AQ rfl Z3) (D_R rfl rfl (fun W hW => AH rfl Z3) (D_R rfl rfl (fun W hW => AD rfl Z3) (D_R rfl rfl (fun W hW => AG rfl (fv W hW) Z3) (D_R rfl rfl (fun W hW => AD rfl Z3) (D_R rfl rfl (fun W hW => AG rfl (g8 W hW) Z3) (D_neqT rfl rfl rfl rfl (by omega) (A8 ?_)))))))
   repeat refine nx rfl ?_
   refine AA (AC (AU rfl ?_))
   repeat refine nx rfl ?_
   have e : sgT f.op f.name f.val f.bound = [90, 32] := by simp [sgT, o15, hv0]
   exact AO rfl ⟨by rw [e]; rfl, k1.trans kd, fun h => absurd h o3⟩
 by_cases o16 : f.op = 16 ∨ f.op = 17
 ·have hvl : s.val = 9999 := by
   rcases o16 with h | h <;> rw [h] at hs <;> simp [Bc, styL, List.lookup] at hs <;> rw [← hs]
  refine AA (AN rfl rfl (by omega) (AC (AB rfl ?_)))
  repeat first | refine nx rfl ?_ | refine nf rfl ?_
  refine AA (AN rfl rfl (by omega) (AC (AB rfl ?_)))
  repeat first | refine nx rfl ?_ | refine nf rfl ?_
  refine AA (AN rfl rfl (by omega) (AC (AB rfl ?_)))
  repeat first | refine nx rfl ?_ | refine nf rfl ?_
  refine AA (AN rfl rfl (by omega) (AC (AB rfl ?_)))
  repeat first | refine nx rfl ?_ | refine nf rfl ?_
  rcases o16 with h16 | h17
  ·refine AA (Av rfl rfl (by omega) (AC (AB rfl ?_)))
   repeat refine nx rfl ?_
   by_cases hvu : f.val = (s.usual : Int)
   ·refine B3 (.read 0 (.read 1 (.read 2 (.read 3 (.read 4 (.read 5 (.read 6 .done))))))) BP (by kernel_rfl) (by repeat (first | exact BW | refine BI ?_ | refine Bw ?_)) (fun wd kd ed => ⟨Ext wd, ?_, ?_⟩)
    ·exact Ext.refl _
    have bd := b1.keep kd (by simp)
    have fn : ∀ W, Ext wd W → W.cell? ⟨b, o + 1, none⟩ = some (AL f.name) := fun W e => ((k1.trans kd).trans e).cell (hcl 1 _ rfl) (by simp)
    have fv : ∀ W, Ext wd W → W.cell? ⟨b, o + 2, none⟩ = some (.int .i64 f.val) := fun W e => ((k1.trans kd).trans e).cell (hcl 2 _ rfl) (by simp)
    have fb : ∀ W, Ext wd W → W.cell? ⟨b, o + 3, none⟩ = some (.int .i64 f.bound) := fun W e => ((k1.trans kd).trans e).cell (hcl 3 _ rfl) (by simp)
    have g0 : ∀ W, Ext wd W → W.cell? ⟨w.heap.size, 0 + 0, none⟩ = some (AL s.sign) := fun W e => (bd.keep e (by simp)).cell rfl
    have g8 : ∀ W, Ext wd W → W.cell? ⟨w.heap.size, 0 + 8, none⟩ = some (.int .i64 (s.usual : Int)) := fun W e => (bd.keep e (by simp)).cell rfl
    refine D_R rfl rfl (fun W hW => AQ rfl Z3) (D_R rfl rfl (fun W hW => AH rfl Z3) (D_R rfl rfl (fun W hW => AD rfl Z3) (D_R rfl rfl (fun W hW => AG rfl (fv W hW) Z3) (D_R rfl rfl (fun W hW => AD rfl Z3) (D_R rfl rfl (fun W hW => AG rfl (g8 W hW) Z3) (D_eqlT rfl rfl rfl rfl (by omega) (A8 ?_)))))))
    repeat refine nx rfl ?_
    have g1 := g0 _ (Ext.refl _)
    refine AA (AD rfl (AG rfl (Blk.cell (by assumption) (by rfl)) ?_))
    refine DU rfl rfl (by simp; omega) ?_
    refine AC (AU rfl ?_)
    repeat refine nx rfl ?_
    have e : sgT f.op f.name f.val f.bound = s.sign ++ [32] := by
     unfold sgT
     rw [esd]
     simp [h16, hvu]
    exact AO rfl ⟨by rw [e]; rfl, k1.trans kd, fun h => absurd h o3⟩
   ·refine B3 (.read 0 (.read 1 (.read 2 (.read 3 (.read 4 (.read 5 (.read 6 .done))))))) BP (by kernel_rfl) (by repeat (first | exact BW | refine BI ?_ | refine Bw ?_)) (fun wd kd ed => ⟨Ext wd, ?_, ?_⟩)
    ·exact Ext.refl _
    have bd := b1.keep kd (by simp)
    have fn : ∀ W, Ext wd W → W.cell? ⟨b, o + 1, none⟩ = some (AL f.name) := fun W e => ((k1.trans kd).trans e).cell (hcl 1 _ rfl) (by simp)
    have fv : ∀ W, Ext wd W → W.cell? ⟨b, o + 2, none⟩ = some (.int .i64 f.val) := fun W e => ((k1.trans kd).trans e).cell (hcl 2 _ rfl) (by simp)
    have fb : ∀ W, Ext wd W → W.cell? ⟨b, o + 3, none⟩ = some (.int .i64 f.bound) := fun W e => ((k1.trans kd).trans e).cell (hcl 3 _ rfl) (by simp)
    have g0 : ∀ W, Ext wd W → W.cell? ⟨w.heap.size, 0 + 0, none⟩ = some (AL s.sign) := fun W e => (bd.keep e (by simp)).cell rfl
    have g8 : ∀ W, Ext wd W → W.cell? ⟨w.heap.size, 0 + 8, none⟩ = some (.int .i64 (s.usual : Int)) := fun W e => (bd.keep e (by simp)).cell rfl
    refine D_R rfl rfl (fun W hW => AQ rfl Z3) (D_R rfl rfl (fun W hW => AH rfl Z3) (D_R rfl rfl (fun W hW => AD rfl Z3) (D_R rfl rfl (fun W hW => AG rfl (fv W hW) Z3) (D_R rfl rfl (fun W hW => AD rfl Z3) (D_R rfl rfl (fun W hW => AG rfl (g8 W hW) Z3) (D_eqlF rfl rfl rfl rfl (by omega) (A8 ?_)))))))
    repeat first | refine nx rfl ?_ | refine nf rfl ?_
    replace k1 := k1.trans kd
    replace b1 := bd
    clear fn fv fb g0 g8 bd kd ed
    refine B3 (.read 0 (.read 1 (.read 2 (.read 3 (.read 4 (.read 5 (.read 6 (.alt 7 (.read 8 (.read 9 (.read 10 .done))) .stop)))))))) BP (by kernel_rfl) (by repeat (first | exact BW | refine BI ?_ | refine Bw ?_)) (fun wd kd ed => ⟨Ext wd, ?_, ?_⟩)
    ·exact Ext.refl _
    have bd := b1.keep kd (by simp)
    have fn : ∀ W, Ext wd W → W.cell? ⟨b, o + 1, none⟩ = some (AL f.name) := fun W e => ((k1.trans kd).trans e).cell (hcl 1 _ rfl) (by simp)
    have fv : ∀ W, Ext wd W → W.cell? ⟨b, o + 2, none⟩ = some (.int .i64 f.val) := fun W e => ((k1.trans kd).trans e).cell (hcl 2 _ rfl) (by simp)
    have fb : ∀ W, Ext wd W → W.cell? ⟨b, o + 3, none⟩ = some (.int .i64 f.bound) := fun W e => ((k1.trans kd).trans e).cell (hcl 3 _ rfl) (by simp)
    have g0 : ∀ W, Ext wd W → W.cell? ⟨w.heap.size, 0 + 0, none⟩ = some (AL s.sign) := fun W e => (bd.keep e (by simp)).cell rfl
    have g8 : ∀ W, Ext wd W → W.cell? ⟨w.heap.size, 0 + 8, none⟩ = some (.int .i64 (s.usual : Int)) := fun W e => (bd.keep e (by simp)).cell rfl
    refine D_R rfl rfl (fun W hW => AD rfl Z3) (D_R rfl rfl (fun W hW => AG rfl (g0 W hW) Z3) ?_)
    (apply D_R rfl rfl; (intro W hW; (refine DU rfl rfl (by (try simp); omega) ?_); exact AJ ⟨rfl, rfl, rfl⟩))
    refine D_R rfl rfl (fun W hW => AQ rfl Z3) (D_R rfl rfl (fun W hW => AH rfl Z3) (D_R rfl rfl (fun W hW => AD rfl Z3) (D_R rfl rfl (fun W hW => AG rfl (fv W hW) Z3) ?_)))
    refine D_E rfl ?_
    refine Aa (wnumber_ok wd f.val (hG.ext (k1.trans kd))) rfl ?_ ?_
    rotate_left
    ·rintro ch w3 ⟨rfl, hb2, rfl⟩
     rw [numB_of h1 (by omega)] at hb2; cases hb2
    rintro v w3 ⟨rfl, _, k3⟩
    have hnn := numT_len (n := f.val) (by omega)
    refine AJ ⟨Ext w3, fun _ e => k3.trans e, Ext.refl _, ?_⟩
    (apply D_R rfl rfl; (intro W hW; (refine DU rfl rfl (by (try simp); omega) ?_); exact AJ ⟨rfl, rfl, rfl⟩))
    (apply D_R rfl rfl; (intro W hW; (refine DU rfl rfl (by (try simp); omega) ?_); exact AJ ⟨rfl, rfl, rfl⟩))
    refine D_R rfl rfl (fun W hW => AC (AU rfl Z3)) (A8 ?_)
    repeat refine nx rfl ?_
    have e : sgT f.op f.name f.val f.bound = s.sign ++ [91] ++ CI f.val ++ [93, 32] := by
     unfold sgT
     rw [esd]
     simp [h16, hvu]
    exact AO rfl ⟨by rw [e]; rfl, (k1.trans kd).trans k3, fun h => absurd h o3⟩
  ·refine AA (AN rfl rfl (by omega) (AC (AB rfl ?_)))
   repeat first | refine nx rfl ?_ | refine nf rfl ?_
   refine AA (Av rfl rfl (by omega) (AC (AB rfl ?_)))
   repeat refine nx rfl ?_
   by_cases hvu : f.val = (s.usual : Int)
   ·refine B3 (.read 0 (.read 1 (.read 2 (.read 3 (.read 4 (.read 5 (.read 6 .done))))))) BP (by kernel_rfl) (by repeat (first | exact BW | refine BI ?_ | refine Bw ?_)) (fun wd kd ed => ⟨Ext wd, ?_, ?_⟩)
    ·exact Ext.refl _
    have bd := b1.keep kd (by simp)
    have fn : ∀ W, Ext wd W → W.cell? ⟨b, o + 1, none⟩ = some (AL f.name) := fun W e => ((k1.trans kd).trans e).cell (hcl 1 _ rfl) (by simp)
    have fv : ∀ W, Ext wd W → W.cell? ⟨b, o + 2, none⟩ = some (.int .i64 f.val) := fun W e => ((k1.trans kd).trans e).cell (hcl 2 _ rfl) (by simp)
    have fb : ∀ W, Ext wd W → W.cell? ⟨b, o + 3, none⟩ = some (.int .i64 f.bound) := fun W e => ((k1.trans kd).trans e).cell (hcl 3 _ rfl) (by simp)
    have g0 : ∀ W, Ext wd W → W.cell? ⟨w.heap.size, 0 + 0, none⟩ = some (AL s.sign) := fun W e => (bd.keep e (by simp)).cell rfl
    have g8 : ∀ W, Ext wd W → W.cell? ⟨w.heap.size, 0 + 8, none⟩ = some (.int .i64 (s.usual : Int)) := fun W e => (bd.keep e (by simp)).cell rfl
    refine D_R rfl rfl (fun W hW => AQ rfl Z3) (D_R rfl rfl (fun W hW => AH rfl Z3) (D_R rfl rfl (fun W hW => AD rfl Z3) (D_R rfl rfl (fun W hW => AG rfl (fv W hW) Z3) (D_R rfl rfl (fun W hW => AD rfl Z3) (D_R rfl rfl (fun W hW => AG rfl (g8 W hW) Z3) (D_eqlT rfl rfl rfl rfl (by omega) (A8 ?_)))))))
    repeat refine nx rfl ?_
    have g1 := g0 _ (Ext.refl _)
    refine AA (AD rfl (AG rfl (Blk.cell (by assumption) (by rfl)) ?_))
    refine DU rfl rfl (by simp; omega) ?_
    refine AC (AU rfl ?_)
    repeat refine nx rfl ?_
    have e : sgT f.op f.name f.val f.bound = s.sign ++ [32] := by
     unfold sgT
     rw [esd]
     simp [h17, hvu]
    exact AO rfl ⟨by rw [e]; rfl, k1.trans kd, fun h => absurd h o3⟩
   ·refine B3 (.read 0 (.read 1 (.read 2 (.read 3 (.read 4 (.read 5 (.read 6 .done))))))) BP (by kernel_rfl) (by repeat (first | exact BW | refine BI ?_ | refine Bw ?_)) (fun wd kd ed => ⟨Ext wd, ?_, ?_⟩)
    ·exact Ext.refl _
    have bd := b1.keep kd (by simp)
    have fn : ∀ W, Ext wd W → W.cell? ⟨b, o + 1, none⟩ = some (AL f.name) := fun W e => ((k1.trans kd).trans e).cell (hcl 1 _ rfl) (by simp)
    have fv : ∀ W, Ext wd W → W.cell? ⟨b, o + 2, none⟩ = some (.int .i64 f.val) := fun W e => ((k1.trans kd).trans e).cell (hcl 2 _ rfl) (by simp)
    have fb : ∀ W, Ext wd W → W.cell? ⟨b, o + 3, none⟩ = some (.int .i64 f.bound) := fun W e => ((k1.trans kd).trans e).cell (hcl 3 _ rfl) (by simp)
    have g0 : ∀ W, Ext wd W → W.cell? ⟨w.heap.size, 0 + 0, none⟩ = some (AL s.sign) := fun W e => (bd.keep e (by simp)).cell rfl
    have g8 : ∀ W, Ext wd W → W.cell? ⟨w.heap.size, 0 + 8, none⟩ = some (.int .i64 (s.usual : Int)) := fun W e => (bd.keep e (by simp)).cell rfl
    refine D_R rfl rfl (fun W hW => AQ rfl Z3) (D_R rfl rfl (fun W hW => AH rfl Z3) (D_R rfl rfl (fun W hW => AD rfl Z3) (D_R rfl rfl (fun W hW => AG rfl (fv W hW) Z3) (D_R rfl rfl (fun W hW => AD rfl Z3) (D_R rfl rfl (fun W hW => AG rfl (g8 W hW) Z3) (D_eqlF rfl rfl rfl rfl (by omega) (A8 ?_)))))))
    repeat first | refine nx rfl ?_ | refine nf rfl ?_
    replace k1 := k1.trans kd
    replace b1 := bd
    clear fn fv fb g0 g8 bd kd ed
    refine B3 (.read 0 (.read 1 (.read 2 (.read 3 (.read 4 (.read 5 (.read 6 (.alt 7 (.read 8 (.read 9 (.read 10 .done))) .stop)))))))) BP (by kernel_rfl) (by repeat (first | exact BW | refine BI ?_ | refine Bw ?_)) (fun wd kd ed => ⟨Ext wd, ?_, ?_⟩)
    ·exact Ext.refl _
    have bd := b1.keep kd (by simp)
    have fn : ∀ W, Ext wd W → W.cell? ⟨b, o + 1, none⟩ = some (AL f.name) := fun W e => ((k1.trans kd).trans e).cell (hcl 1 _ rfl) (by simp)
    have fv : ∀ W, Ext wd W → W.cell? ⟨b, o + 2, none⟩ = some (.int .i64 f.val) := fun W e => ((k1.trans kd).trans e).cell (hcl 2 _ rfl) (by simp)
    have fb : ∀ W, Ext wd W → W.cell? ⟨b, o + 3, none⟩ = some (.int .i64 f.bound) := fun W e => ((k1.trans kd).trans e).cell (hcl 3 _ rfl) (by simp)
    have g0 : ∀ W, Ext wd W → W.cell? ⟨w.heap.size, 0 + 0, none⟩ = some (AL s.sign) := fun W e => (bd.keep e (by simp)).cell rfl
    have g8 : ∀ W, Ext wd W → W.cell? ⟨w.heap.size, 0 + 8, none⟩ = some (.int .i64 (s.usual : Int)) := fun W e => (bd.keep e (by simp)).cell rfl
    refine D_R rfl rfl (fun W hW => AD rfl Z3) (D_R rfl rfl (fun W hW => AG rfl (g0 W hW) Z3) ?_)
    (apply D_R rfl rfl; (intro W hW; (refine DU rfl rfl (by (try simp); omega) ?_); exact AJ ⟨rfl, rfl, rfl⟩))
    refine D_R rfl rfl (fun W hW => AQ rfl Z3) (D_R rfl rfl (fun W hW => AH rfl Z3) (D_R rfl rfl (fun W hW => AD rfl Z3) (D_R rfl rfl (fun W hW => AG rfl (fv W hW) Z3) ?_)))
    refine D_E rfl ?_
    refine Aa (wnumber_ok wd f.val (hG.ext (k1.trans kd))) rfl ?_ ?_
    rotate_left
    ·rintro ch w3 ⟨rfl, hb2, rfl⟩
     rw [numB_of h1 (by omega)] at hb2; cases hb2
    rintro v w3 ⟨rfl, _, k3⟩
    have hnn := numT_len (n := f.val) (by omega)
    refine AJ ⟨Ext w3, fun _ e => k3.trans e, Ext.refl _, ?_⟩
    (apply D_R rfl rfl; (intro W hW; (refine DU rfl rfl (by (try simp); omega) ?_); exact AJ ⟨rfl, rfl, rfl⟩))
    (apply D_R rfl rfl; (intro W hW; (refine DU rfl rfl (by (try simp); omega) ?_); exact AJ ⟨rfl, rfl, rfl⟩))
    refine D_R rfl rfl (fun W hW => AC (AU rfl Z3)) (A8 ?_)
    repeat refine nx rfl ?_
    have e : sgT f.op f.name f.val f.bound = s.sign ++ [91] ++ CI f.val ++ [93, 32] := by
     unfold sgT
     rw [esd]
     simp [h17, hvu]
    exact AO rfl ⟨by rw [e]; rfl, (k1.trans kd).trans k3, fun h => absurd h o3⟩
 ·refine AA (AN rfl rfl (by omega) (AC (AB rfl ?_)))
  repeat first | refine nx rfl ?_ | refine nf rfl ?_
  refine AA (AN rfl rfl (by omega) (AC (AB rfl ?_)))
  repeat first | refine nx rfl ?_ | refine nf rfl ?_
  refine AA (AN rfl rfl (by omega) (AC (AB rfl ?_)))
  repeat first | refine nx rfl ?_ | refine nf rfl ?_
  refine AA (AN rfl rfl (by omega) (AC (AB rfl ?_)))
  repeat first | refine nx rfl ?_ | refine nf rfl ?_
  refine AA (AN rfl rfl (by omega) (AC (AB rfl ?_)))
  repeat first | refine nx rfl ?_ | refine nf rfl ?_
  refine AA (AN rfl rfl (by omega) (AC (AB rfl ?_)))
  repeat first | refine nx rfl ?_ | refine nf rfl ?_
  have g1 : w1.cell? ⟨w.heap.size, 0 + 0, none⟩ = some (AL s.sign) := b1.cell rfl
  (refine AA (AD rfl (AG rfl (Blk.cell (by assumption) (by rfl)) ?_)) <;> refine AC (AU rfl ?_))
  repeat refine nx rfl ?_
  have e : sgT f.op f.name f.val f.bound = s.sign := by simp [sgT, o3, o13, o15, o16, esd]
  exact AO rfl ⟨by rw [e]; rfl, k1, fun h => absurd h o3⟩
end Go.Proofs.YtfcgdbmoncnibaaGreatDoor
namespace Go.Proofs.YtfcgdbmoncnibaaGreatDoor
open Go.RowKit
set_option linter.unusedVariables false
inductive Pc where
 | txt (t : List UInt8)
 | sub (f : Fml) (n : Nat)
def subC (b o n : Nat) : List Value := [AL [], .pointer (some ⟨b, o, none⟩), .int .i64 (n : Int)]
def txtC (t : List UInt8) : List Value := [AL t, .pointer none, .int .i64 0]
def pcFits (ok : Nat → Prop) (w : World) (c : List Value) : Pc → Prop
 | .txt t => c = txtC t
 | .sub f n => ∃ b o, c = subC b o n ∧ PF ok w b o f
def pcR : Rp Pc where
 fits := pcFits
 size := 3
 len {ok w c a} h := by
  cases a with
  | txt t => have h : c = txtC t := h; subst h; rfl
  | sub f n => obtain ⟨b, o, rfl, _⟩ := h; rfl
 one {ok w c a} h := by
  cases a with
  | txt t =>
   have h : c = txtC t := h
   subst h; intro u hu; simp [txtC] at hu; rcases hu with rfl | rfl | rfl <;> rfl
  | sub f n => obtain ⟨b, o, rfl, _⟩ := h; intro u hu; simp [subC] at hu; rcases hu with rfl | rfl | rfl <;> rfl
 keep {ok X w w' c a} h k hX := by
  cases a with
  | txt t => exact h
  | sub f n => obtain ⟨b, o, e, hp⟩ := h; exact ⟨b, o, e, hp.keep k hX⟩
 lt {ok w c a} h := by
  cases a with
  | txt t => exact h
  | sub f n => obtain ⟨b, o, e, hp⟩ := h; exact ⟨b, o, e, hp.lt⟩
 mono {ok ok' w c a} h hk := by
  cases a with
  | txt t => exact h
  | sub f n => obtain ⟨b, o, e, hp⟩ := h; exact ⟨b, o, e, hp.mono hk⟩
def argP (next : Nat) (sg : List UInt8) : List Fml → List Pc
 | [] => []
 | a :: l => .txt sg :: .sub a next :: argP next sg l
def CX (first next : Nat) (sg : List UInt8) : List Fml → List Pc
 | [] => []
 | a :: l => .sub a first :: argP next sg l
theorem argP_len (next : Nat) (sg : List UInt8) : ∀ l, (argP next sg l).length = 2 * l.length
 | [] => rfl
 | a :: l => by simp [argP, argP_len next sg l]; omega
theorem argP_snoc (next : Nat) (sg : List UInt8) (a : Fml) : ∀ l, argP next sg (l ++ [a]) = argP next sg l ++ [.txt sg, .sub a next]
 | [] => rfl
 | c :: l => by simp [argP, argP_snoc next sg a l]
theorem argsP_snoc {first next : Nat} {sg : List UInt8} {a : Fml} {l : List Fml} (h : l ≠ []) : CX first next sg (l ++ [a]) = CX first next sg l ++ [.txt sg, .sub a next] := by
 cases l with
 | nil => exact absurd rfl h
 | cons c l => simp [CX, argP_snoc]
theorem argsP_len (first next : Nat) (sg : List UInt8) (l : List Fml) : (CX first next sg l).length ≤ 2 * l.length := by
 cases l with
 | nil => simp [CX]
 | cons a l => simp [CX, argP_len]; omega
def Cx (s : Sty) (n : Nat) : List Pc := if s.level < n then [.txt [40]] else []
def DJ (s : Sty) (n : Nat) : List Pc := if s.level < n then [.txt [41]] else []
def CV (sg : List UInt8) (k : Nat) : List Pc := if k < 2 then [.txt sg] else []
def pcs (s : Sty) (n : Nat) (f : Fml) : List Pc :=
 Cx s n ++ CV (sgT f.op f.name f.val f.bound) f.args.length ++ CX s.first s.next (sgT f.op f.name f.val f.bound) f.args ++ DJ s n
structure PS (C B : Nat) (v : Value) (L : List (List Value)) (ps : List Pc) (W : World) : Prop where
 own : W.ownsRow B 125 3 v ps.length L.flatten
 rs : RsAt pcR (fun b => b < C) W L ps
 le : C ≤ B
theorem PS.ext {C B : Nat} {v : Value} {L : List (List Value)} {ps : List Pc} {W W' : World} (h : PS C B v L ps W) (k : Ext W W') : PS C B v L ps W' := ⟨BX h.own k, h.rs.ext k, h.le⟩
theorem PS.app {C B : Nat} {v v2 : Value} {L M : List (List Value)} {ps qs : List Pc} {W1 W2 : World} (h : PS C B v L ps W1) (a : Apd W1 W2 B 125 3 v v2 (ps.length + qs.length) (L.flatten ++ M.flatten)) (hq : RsAt pcR (fun b => b < C) W1 M qs) : PS C B v2 (L ++ M) (ps ++ qs) W2 := by
 have hX : ∀ b, b < C → b ∉ v.ownBlock.toList := fun b hb hx => by
  have := (BM h.own (Option.mem_toList.1 hx)).1; have := h.le; omega
 refine ⟨?_, (h.rs.keep a.keep hX).app (hq.keep a.keep hX), h.le⟩
 rw [List.length_append, List.flatten_append]
 exact a.own
theorem PS.nil {C B : Nat} (h : C ≤ B) (W : World) : PS C B (.slice none 0 0) [] [] W := ⟨⟨by simp, .inl ⟨rfl, rfl⟩⟩, RsAt.nil, h⟩
theorem txt_fits (ok : Nat → Prop) (w : World) (t : List UInt8) : RsAt pcR ok w [txtC t] [.txt t] := RsAt.one (R := pcR) (a := .txt t) rfl
theorem PS.form {C B : Nat} {v : Value} {L : List (List Value)} {ps : List Pc} {W : World} (h : PS C B v L ps W) : ∃ a c, v = .slice a ps.length c := by
 rcases h.own.2 with ⟨rfl, h0⟩ | ⟨g, cap, cur, rfl, _⟩
 ·exact ⟨none, 0, by rw [h0]⟩
 ·exact ⟨_, _, rfl⟩
def outP : Pc → List UInt8
 | .txt t => t
 | .sub f n => prF n f
theorem out_argP (next : Nat) (sg : List UInt8) : ∀ l, (argP next sg l).flatMap outP = prR next sg l
 | [] => by simp [argP, prR]
 | a :: l => by simp [argP, prR, outP, out_argP next sg l]
theorem out_pcs {f : Fml} {s : Sty} (hs : Bc f.op = some s) (n : Nat) : (pcs s n f).flatMap outP = prF n f := by
 have esd : Bh f.op = s := by unfold Bh; rw [hs]; rfl
 cases f with
 | mk op nm v b args =>
  have esd : Bh op = s := esd
  simp only [prF, esd]
  have hA : (CV (sgT op nm v b) args.length ++ CX s.first s.next (sgT op nm v b) args).flatMap outP = prA s.first s.next (sgT op nm v b) args := by
   cases args with
   | nil => simp [CV, CX, prA, outP]
   | cons a l =>
    cases l with
    | nil => simp [CV, CX, argP, prA, prR, outP]
    | cons c l =>
     have h2 : ¬ (l.length + 1 + 1 < 2) := by omega
     simp [CV, CX, prA, outP, out_argP, h2]
  have e : pcs s n (.mk op nm v b args) = Cx s n ++ (CV (sgT op nm v b) args.length ++ CX s.first s.next (sgT op nm v b) args) ++ DJ s n := by
   show Cx s n ++ CV (sgT op nm v b) args.length ++ CX s.first s.next (sgT op nm v b) args ++ DJ s n = _
   simp
  rw [e, List.flatMap_append, List.flatMap_append, hA]
  by_cases hl : s.level < n
  ·simp [Cx, DJ, hl, wrapT, outP]
  ·simp [Cx, DJ, hl, wrapT]
end Go.Proofs.YtfcgdbmoncnibaaGreatDoor
namespace Go.Proofs.YtfcgdbmoncnibaaGreatDoor
open Go.RowKit
set_option linter.unusedVariables false
theorem split_node {f : Fml} {s : Sty} (hs : Bc f.op = some s) : Cu f.op f.name f.val f.bound f.args.length = (nodeC s f && (!decide (f.op = 3) || BV f.name)) := by
 unfold Cu nodeC
 rw [hs]
 by_cases h3 : f.op = 3
 ·simp only [h3, if_true, decide_true, Bool.not_true, Bool.false_or, Bool.true_or, Bool.and_true]
  congr 1
  rw [Bool.eq_iff_iff]
  simp only [Bool.and_eq_true, decide_eq_true_eq]
  constructor
  ·rintro ⟨a, b, c, d, e, g⟩; exact ⟨⟨⟨a, b⟩, c, d⟩, e, g⟩
  ·rintro ⟨⟨⟨a, b⟩, c, d⟩, e, g⟩; exact ⟨a, b, c, d, e, g⟩
 ·simp only [h3, if_false, decide_false, Bool.not_false, Bool.false_or, Bool.true_or, Bool.and_true]
  rw [Bool.eq_iff_iff]
  simp only [Bool.and_eq_true, decide_eq_true_eq]
  constructor
  ·rintro ⟨⟨a, b, c, d, e, g⟩, k⟩; exact ⟨⟨⟨⟨a, b⟩, c, d⟩, e, g⟩, k⟩
  ·rintro ⟨⟨⟨⟨a, b⟩, c, d⟩, e, g⟩, k⟩; exact ⟨⟨a, b, c, d, e, g⟩, k⟩
set_option maxHeartbeats 3200000 in
theorem pieces_ok (w : World) (C : Nat) (hC : C ≤ w.heap.size) (s : Sty) (b o n : Nat) (f : Fml) (hf : PF (fun b => b < C) w b o f) (hs : Bc f.op = some s) (hn : n ≤ 9) (hk : f.args.length ≤ 1000000) (hG : GP w) :
  FnP Tryz.prog 77 [Bj s, .pointer (some ⟨b, o, none⟩), .int .i64 (n : Int)] w
   (fun v w' => Ext w w' ∧ Cu f.op f.name f.val f.bound f.args.length = true ∧ ∃ L B, w.heap.size ≤ B ∧ PS C B v L (pcs s n f) w')
   (fun ch w' => ch = unp ∧ Ext w w' ∧ Cu f.op f.name f.val f.bound f.args.length = false) := by
 obtain ⟨_, a, c, LA, hcl, hSA, hFA⟩ := hf.form
 have hsg : (sgT f.op f.name f.val f.bound).length ≤ 1000000 ∨ True := .inr trivial
 refine Ar Tryz.func77 rfl Tryz.ntmps77 (Nat.le_of_ble_eq_true rfl) (by kernel_rfl) ?_
 repeat refine nx rfl ?_
 (refine AA ?_; refine Bq (L := CN s) rfl (fun w1 n1 => ?_))
 have b1 := n1.blk
 have k1 := n1.keep
 ((refine AC ?_; refine Ae rfl ?_))
 repeat refine nx rfl ?_
 (refine AA ?_ <;> refine AX rfl (by assumption) (by rfl) ?_ <;> refine AQ rfl ?_)
 refine Aa (check_ok w1 s b o f a c (hcl.keep k1 (by simp))) rfl ?_ ?_
 rotate_left
 ·rintro ch w2 ⟨rfl, k2, hb⟩
  repeat refine nx rfl ?_
  exact AY ⟨rfl, k1.trans k2, by rw [split_node hs, hb]; rfl⟩
 rintro _ w2 ⟨rfl, k2, hc2⟩
 repeat refine nx rfl ?_
 have b2 := b1.keep k2 (by simp)
 have k12 := k2
 have z1 := n1.size
 replace k2 := k1.trans k2
 have z2 := k2.size
 refine AA (AC (Ae rfl ?_))
 repeat refine nx rfl ?_
 have l1 : w2.cell? ⟨w.heap.size, 0 + 1, none⟩ = some (.int .i64 (s.level : Int)) := b2.cell rfl
 refine CE (α := Value × List (List Value)) (fun x => [(1, .pointer (some ⟨b, o, none⟩)), (2, .int .i64 (n : Int)), (3, .pointer (some ⟨w.heap.size, 0, none⟩)), (7, x.1), (16, .bool (decide (s.level < n)))]) (fun x W => x = (.slice none 0 0, []) ∧ w2 = W) ?_ ?_
 ·by_cases hl : s.level < n
  ·rw [decide_eq_true hl]
   (refine AA (AD rfl ?_) <;> refine AG rfl (Blk.cell (by assumption) (by rfl)) ?_ <;> refine AF rfl ?_ <;> refine BC rfl rfl (by omega) ?_ <;> refine AJ ?_)
   exact An (_, _) ⟨rfl, rfl, rfl, rfl, rfl, trivial⟩ ⟨rfl, rfl⟩
  ·rw [decide_eq_false hl]
   (refine AA (AD rfl ?_) <;> refine AG rfl (Blk.cell (by assumption) (by rfl)) ?_ <;> refine AF rfl ?_ <;> refine BA rfl rfl (by omega) ?_ <;> refine AJ ?_)
   exact An (_, _) ⟨rfl, rfl, rfl, rfl, rfl, trivial⟩ ⟨rfl, rfl⟩
 rintro _ _ f3 ⟨rfl, rfl⟩
 refine CE (α := Value × List (List Value)) (fun x => [(1, .pointer (some ⟨b, o, none⟩)), (2, .int .i64 (n : Int)), (3, .pointer (some ⟨w.heap.size, 0, none⟩)), (7, x.1)]) (fun x W => Ext w1 W ∧ PS C w1.heap.size x.1 x.2 (Cx s n) W) ?_ ?_
 ·by_cases hl : s.level < n
  ·rw [decide_eq_true hl]
   repeat refine nx rfl ?_
   (refine AA (Ae rfl ?_) <;> refine Ad (by rfl) (by rfl) ?_)
   have hlp : ([] : List Pc).length = 0 := rfl
   refine AV (out := txtC [40]) rfl (by omega) (by kernel_rfl) (fun w3 n3 => ?_)
   have rA := (n3).own (n := 1) (size := 3) rfl (by decide) (Nat.le_refl _)
   have hoA := (PS.nil (Nat.le_trans hC n1.keep.size) w2).ext (n3).keep
   have zA := (n3).size
   refine Bl (ok := A0) (v := .slice none 0 0) rfl rfl hoA.own (A3 rA fun _ _ => trivial) (by omega) rfl rfl (by intro y hy; simp [txtC, subC] at hy; rcases hy with rfl | rfl | rfl | rfl | rfl | rfl <;> rfl) (by omega) (by omega) (by omega) (fun v3 w4 aA => ?_)
   have keA : Ext w1 w4 := ((k12).trans (n3).keep).keep aA.keep (fun y hy => (BM hoA.own (Option.mem_toList.1 hy)).1)
   ((refine AC ?_; refine Az ?_))
   repeat refine nx rfl ?_
   refine An (v3, [] ++ [txtC [40]]) ⟨rfl, rfl, rfl, rfl, trivial⟩ ⟨keA, ?_⟩
   rw [Cx, if_pos hl]
   exact hoA.app (qs := [.txt [40]]) (M := [txtC [40]]) (by simpa using aA) (txt_fits _ _ _)
  ·rw [decide_eq_false hl]
   repeat first | refine nx rfl ?_ | refine nf rfl ?_
   refine An (_, []) ⟨rfl, rfl, rfl, rfl, trivial⟩ ⟨k12, ?_⟩
   rw [Cx, if_neg hl]
   exact PS.nil (Nat.le_trans hC n1.keep.size) _
 rintro ⟨v, L⟩ w5 f5 ⟨k5, hP⟩
 simp only at hP ⊢
 repeat refine nx rfl ?_
 have bx : ∀ W, Ext w1 W → Blk W w.heap.size 129 (CN s) := fun W e => b1.keep e (by simp)
 have b5 := bx w5 k5
 (refine AA ?_ <;> refine AX rfl (by assumption) (by rfl) ?_ <;> refine AQ rfl ?_)
 refine Aa (signOf_ok w5 s b o f _ (hcl.keep (k1.trans k5) (by simp)) hs hc2 (hG.ext (k1.trans k5))) rfl ?_ ?_
 rotate_left
 ·rintro ch w6 ⟨rfl, k6, h3, hb⟩
  repeat refine nx rfl ?_
  exact AY ⟨rfl, (k1.trans k5).trans k6, by rw [split_node hs, hc2]; simp [h3, hb]⟩
 rintro _ w6 ⟨rfl, k6, hn3⟩
 have hnode : Cu f.op f.name f.val f.bound f.args.length = true := by
  rw [split_node hs, hc2]
  by_cases h3 : f.op = 3
  ·simp [hn3 h3]
  ·simp [h3]
 ((refine AC ?_; refine AU rfl ?_))
 repeat refine nx rfl ?_
 have k16 : Ext w1 w6 := k5.trans k6
 have z16 := k16.size
 replace hP := hP.ext k6
 clear k5 k6 b5
 generalize hsgg : sgT f.op f.name f.val f.bound = sg
 have fa : ∀ W, Ext w1 W → W.cell? ⟨b, o + 4, none⟩ = some (.slice a f.args.length c) := fun W e => e.cell (k1.cell (hcl 4 _ rfl) (by simp)) (by simp)
 have fa6 := fa w6 k16
 have hop : (Cx s n).length ≤ 1 := by unfold Cx; split <;> simp
 refine CE (α := Unit) (fun _ => [(1, .pointer (some ⟨b, o, none⟩)), (2, .int .i64 (n : Int)), (3, .pointer (some ⟨w.heap.size, 0, none⟩)), (7, v), (8, AL sg), (29, .bool (decide (f.args.length < 2)))]) (fun _ W => w6 = W) ?_ ?_
 ·by_cases hl : f.args.length < 2
  ·rw [decide_eq_true hl]
   (refine AA (AQ rfl (AH rfl (AD rfl ?_))) <;> refine AG rfl (by assumption) ?_ <;> refine As rfl ?_ <;> refine BC rfl rfl (by omega) ?_ <;> refine AJ ?_)
   exact An () ⟨rfl, rfl, rfl, rfl, rfl, rfl, trivial⟩ rfl
  ·rw [decide_eq_false hl]
   (refine AA (AQ rfl (AH rfl (AD rfl ?_))) <;> refine AG rfl (by assumption) ?_ <;> refine As rfl ?_ <;> refine BA rfl rfl (by omega) ?_ <;> refine AJ ?_)
   exact An () ⟨rfl, rfl, rfl, rfl, rfl, rfl, trivial⟩ rfl
 rintro _ _ f6 rfl
 refine CE (α := Value × List (List Value)) (fun x => [(1, .pointer (some ⟨b, o, none⟩)), (2, .int .i64 (n : Int)), (3, .pointer (some ⟨w.heap.size, 0, none⟩)), (7, x.1), (8, AL sg)]) (fun x W => Ext w1 W ∧ PS C w1.heap.size x.1 x.2 (Cx s n ++ CV sg f.args.length) W) ?_ ?_
 ·by_cases hl : f.args.length < 2
  ·rw [decide_eq_true hl]
   repeat refine nx rfl ?_
   (refine AA (Az (AU rfl ?_)) <;> refine Ad (by rfl) (by rfl) ?_)
   refine AV (out := txtC sg) rfl (by omega) (by kernel_rfl) (fun w7 n7 => ?_)
   have rA := (n7).own (n := 1) (size := 3) rfl (by decide) (Nat.le_refl _)
   have hoA := (hP).ext (n7).keep
   have zA := (n7).size
   refine Bl (ok := A0) (v := v) rfl rfl hoA.own (A3 rA fun _ _ => trivial) (by omega) rfl rfl (by intro y hy; simp [txtC, subC] at hy; rcases hy with rfl | rfl | rfl | rfl | rfl | rfl <;> rfl) (by omega) (by omega) (by omega) (fun v7 w8 aA => ?_)
   have keA : Ext w1 w8 := ((k16).trans (n7).keep).keep aA.keep (fun y hy => (BM hoA.own (Option.mem_toList.1 hy)).1)
   ((refine AC ?_; refine Az ?_))
   repeat refine nx rfl ?_
   refine An (v7, L ++ [txtC sg]) ⟨rfl, rfl, rfl, rfl, rfl, trivial⟩ ⟨keA, ?_⟩
   rw [CV, if_pos hl]
   exact hoA.app (qs := [.txt sg]) (M := [txtC sg]) (by simpa using aA) (txt_fits _ _ _)
  ·rw [decide_eq_false hl]
   repeat first | refine nx rfl ?_ | refine nf rfl ?_
   refine An (v, L) ⟨rfl, rfl, rfl, rfl, rfl, trivial⟩ ⟨k16, ?_⟩
   rw [CV, if_neg hl, List.append_nil]
   exact hP
 clear hP k16 fa6
 rintro ⟨v0, L0⟩ w7 f7 ⟨k7, hP7⟩
 simp only at hP7 ⊢
 repeat refine nx rfl ?_
 have fa7 := fa w7 k7
 (refine AA (AQ rfl (AH rfl (AD rfl ?_))) <;> refine AG rfl (by assumption) ?_ <;> refine As rfl (AF rfl ?_))
 repeat refine nx rfl ?_
 have hhl : (Cx s n ++ CV sg f.args.length).length ≤ 2 := by
  rw [List.length_append]
  have : (CV sg f.args.length).length ≤ 1 := by unfold CV; split <;> simp
  omega
 refine BJ (α := Nat × Value × List (List Value)) (fun x => [(1, .pointer (some ⟨b, o, none⟩)), (2, .int .i64 (n : Int)), (3, .pointer (some ⟨w.heap.size, 0, none⟩)), (7, x.2.1), (8, AL sg), (39, .int .i64 (f.args.length : Int)), (40, .int .i64 (x.1 : Int))])
  (fun x W => x.1 ≤ f.args.length ∧ Ext w1 W ∧ PS C w1.heap.size x.2.1 x.2.2 (Cx s n ++ CV sg f.args.length ++ CX s.first s.next sg (f.args.take x.1)) W) (fun x => f.args.length - x.1)
  (0, v0, L0) ⟨rfl, rfl, rfl, rfl, rfl, rfl, rfl, trivial⟩ ⟨by simp, k7, by simp only [List.take_zero, CX, List.append_nil]; exact hP7⟩ ?_
 clear hP7 k7 fa7
 rintro ⟨k, v8, L8⟩ w8 f8 ⟨hk8, k8, hP8⟩
 simp only at hk8 k8 hP8 ⊢
 repeat refine nx rfl ?_
 have z8 := k8.size
 by_cases hlt : k < f.args.length
 ·obtain ⟨x, hx⟩ : ∃ x, f.args[k]? = some x := ⟨_, List.getElem?_eq_getElem hlt⟩
  obtain ⟨cx, hcx⟩ : ∃ cx, LA[k]? = some cx := ⟨_, List.getElem?_eq_getElem (by rw [hFA.1]; exact hlt)⟩
  obtain ⟨ba, oa, rfl, hba, hcellx⟩ := hSA.fml hFA.2.1 hcx hlt
  have hpf : ∀ W, Ext w W → PF (fun b => b < C) W ba (oa + k * 5) x := fun W e => ⟨hba, cx, hFA.2.1 cx (List.mem_of_getElem? hcx), hcellx.keep e (by simp), (hFA.2.2 k cx x hcx hx).ext e⟩
  have htk : f.args.take (k + 1) = f.args.take k ++ [x] := by rw [List.take_add_one, hx]; rfl
  have hal := argsP_len s.first s.next sg (f.args.take k)
  have htl : (f.args.take k).length = k := by simp; omega
  have hll : (Cx s n ++ CV sg f.args.length ++ CX s.first s.next sg (f.args.take k)).length ≤ 2 + 2 * k := by rw [List.length_append]; omega
  have g2 : ∀ W, Ext w1 W → W.cell? ⟨w.heap.size, 0 + 2, none⟩ = some (.int .i64 (s.first : Int)) := fun W e => (bx W e).cell rfl
  have g3 : ∀ W, Ext w1 W → W.cell? ⟨w.heap.size, 0 + 3, none⟩ = some (.int .i64 (s.next : Int)) := fun W e => (bx W e).cell rfl
  (refine AA ?_ <;> refine BC rfl rfl (by omega) ?_)
  repeat refine nx rfl ?_
  refine AA (AF rfl (AC (AF rfl ?_)))
  repeat refine nx rfl ?_
  by_cases hk0 : 0 < k
  ·(refine AA (AF rfl ?_) <;> refine DI rfl rfl (by omega) ?_)
   repeat refine nx rfl ?_
   refine Bb (.read 0 (.read 1 (.read 2 (.read 3 (.read 4 (.read 5 (.read 6 (.read 7 (.read 8 (.read 9 (.read 10 (.read 11 (.alt 12 (.alt 13 (.read 14 .done) .stop) .stop))))))))))))) BP (by kernel_rfl) (fun wd kd ed => ⟨Ext w1, ?_, ?_⟩)
   ·exact k8.trans kd
   have hPd := hP8.ext kd
   have kw := k8.trans kd
   have zd := kw.size
   ((apply D_R rfl rfl; (intro W hW; refine Az ?_; exact AJ ⟨rfl, rfl, rfl⟩)) <;> (apply D_R rfl rfl; (intro W hW; refine AU rfl ?_; exact AJ ⟨rfl, rfl, rfl⟩)) <;> (apply D_R rfl rfl; (intro W hW; refine Ad (by rfl) (by rfl) ?_; exact AJ ⟨rfl, rfl, rfl⟩)) <;> (apply D_R rfl rfl; (intro W hW; refine AQ rfl ?_; exact AJ ⟨rfl, rfl, rfl⟩)) <;> (apply D_R rfl rfl; (intro W hW; refine AH rfl ?_; exact AJ ⟨rfl, rfl, rfl⟩)) <;> (apply D_R rfl rfl; (intro W hW; refine AD rfl ?_; exact AJ ⟨rfl, rfl, rfl⟩)) <;> (apply D_R rfl rfl; (intro W hW; refine AG rfl (fa W hW) ?_; exact AJ ⟨rfl, rfl, rfl⟩)) <;> (apply D_R rfl rfl; (intro W hW; refine AF rfl ?_; exact AJ ⟨rfl, rfl, rfl⟩)) <;> (apply D_R rfl rfl; (intro W hW; refine CD rfl rfl rfl (by omega) ?_; exact AJ ⟨rfl, rfl, rfl⟩)) <;> (apply D_R rfl rfl; (intro W hW; refine AD rfl ?_; exact AJ ⟨rfl, rfl, rfl⟩)) <;> (apply D_R rfl rfl; (intro W hW; refine AG rfl (g3 W hW) ?_; exact AJ ⟨rfl, rfl, rfl⟩)) <;> (apply D_R rfl rfl; (intro W hW; refine Ad (by rfl) (by rfl) ?_; exact AJ ⟨rfl, rfl, rfl⟩)))
   refine D_E rfl ?_
   refine AV (out := txtC sg ++ subC ba (oa + k * 5) s.next) rfl (by omega) (by kernel_rfl) (fun wA nA => ?_)
   have rA := nA.own (n := 2) (size := 3) rfl (by decide) (Nat.le_refl _)
   have hoA := hPd.ext nA.keep
   have zA := nA.size
   refine AJ ⟨Ext w1, fun _ e => e, kw.trans nA.keep, ?_⟩
   refine D_E rfl ?_
   refine Bl (ok := A0) (v := v8) rfl rfl hoA.own (A3 rA fun _ _ => trivial) (by omega) rfl rfl (by intro y hy; simp [txtC, subC] at hy; rcases hy with rfl | rfl | rfl | rfl | rfl | rfl <;> rfl) (by omega) (by omega) (by omega) (fun vB wB aA => ?_)
   have keA : Ext w1 wB := (kw.trans nA.keep).keep aA.keep (fun y hy => (BM hoA.own (Option.mem_toList.1 hy)).1)
   refine AJ ⟨Ext w1, fun _ e => e, keA, ?_⟩
   ((apply D_R rfl rfl; (intro W hW; (refine AC ?_; refine Az ?_); exact AJ ⟨rfl, rfl, rfl⟩)) <;> refine A8 ?_)
   repeat refine nx rfl ?_
   (refine AA ?_ <;> refine BK rfl rfl (by first | exact Am (by omega) (by omega) | exact At (by omega) (by omega) | exact Al (by omega) (by omega)) ?_ <;> refine AF rfl ?_)
   repeat refine nx rfl ?_
   refine ⟨(k + 1, vB, L8 ++ [txtC sg, subC ba (oa + k * 5) s.next]), ⟨rfl, ⟨rfl, rfl, rfl, rfl, rfl, rfl, ?_, trivial⟩, ⟨by simp only; omega, keA, ?_⟩⟩, by simp only; omega⟩
   ·show Value.int .i64 ((k : Int) + 1) = _
    rw [Int.natCast_add]; rfl
   ·simp only
    have hne : f.args.take k ≠ [] := by
     intro h0
     rw [h0] at htl; simp at htl; omega
    rw [htk, argsP_snoc hne, ← List.append_assoc]
    refine hoA.app (qs := [.txt sg, .sub x s.next]) (M := [txtC sg, subC ba (oa + k * 5) s.next]) (by simpa using aA) ?_
    exact (txt_fits _ _ _).snoc (a := Pc.sub x s.next) ⟨ba, oa + k * 5, rfl, hpf _ (k1.trans (kw.trans nA.keep))⟩
  ·have hk00 : k = 0 := by omega
   subst hk00
   (refine AA (AF rfl ?_) <;> refine DF rfl rfl (by omega) ?_)
   repeat first | refine nx rfl ?_ | refine nf rfl ?_
   refine Bb (.read 0 (.read 1 (.read 2 (.read 3 (.read 4 (.read 5 (.read 6 (.read 7 (.read 8 (.read 9 (.alt 10 (.alt 11 (.read 12 .done) .stop) .stop))))))))))) BP (by kernel_rfl) (fun wd kd ed => ⟨Ext w1, ?_, ?_⟩)
   ·exact k8.trans kd
   have hPd := hP8.ext kd
   have kw := k8.trans kd
   have zd := kw.size
   ((apply D_R rfl rfl; (intro W hW; refine Az ?_; exact AJ ⟨rfl, rfl, rfl⟩)) <;> (apply D_R rfl rfl; (intro W hW; refine AQ rfl ?_; exact AJ ⟨rfl, rfl, rfl⟩)) <;> (apply D_R rfl rfl; (intro W hW; refine AH rfl ?_; exact AJ ⟨rfl, rfl, rfl⟩)) <;> (apply D_R rfl rfl; (intro W hW; refine AD rfl ?_; exact AJ ⟨rfl, rfl, rfl⟩)) <;> (apply D_R rfl rfl; (intro W hW; refine AG rfl (fa W hW) ?_; exact AJ ⟨rfl, rfl, rfl⟩)) <;> (apply D_R rfl rfl; (intro W hW; refine AF rfl ?_; exact AJ ⟨rfl, rfl, rfl⟩)) <;> (apply D_R rfl rfl; (intro W hW; refine CD rfl rfl rfl (by omega) ?_; exact AJ ⟨rfl, rfl, rfl⟩)) <;> (apply D_R rfl rfl; (intro W hW; refine AD rfl ?_; exact AJ ⟨rfl, rfl, rfl⟩)) <;> (apply D_R rfl rfl; (intro W hW; refine AG rfl (g2 W hW) ?_; exact AJ ⟨rfl, rfl, rfl⟩)) <;> (apply D_R rfl rfl; (intro W hW; refine Ad (by rfl) (by rfl) ?_; exact AJ ⟨rfl, rfl, rfl⟩)))
   refine D_E rfl ?_
   refine AV (out := subC ba (oa + 0 * 5) s.first) rfl (by omega) (by kernel_rfl) (fun wA nA => ?_)
   have rA := nA.own (n := 1) (size := 3) rfl (by decide) (Nat.le_refl _)
   have hoA := hPd.ext nA.keep
   have zA := nA.size
   refine AJ ⟨Ext w1, fun _ e => e, kw.trans nA.keep, ?_⟩
   refine D_E rfl ?_
   refine Bl (ok := A0) (v := v8) rfl rfl hoA.own (A3 rA fun _ _ => trivial) (by omega) rfl rfl (by intro y hy; simp [txtC, subC] at hy; rcases hy with rfl | rfl | rfl <;> rfl) (by omega) (by omega) (by omega) (fun vB wB aA => ?_)
   have keA : Ext w1 wB := (kw.trans nA.keep).keep aA.keep (fun y hy => (BM hoA.own (Option.mem_toList.1 hy)).1)
   refine AJ ⟨Ext w1, fun _ e => e, keA, ?_⟩
   ((apply D_R rfl rfl; (intro W hW; (refine AC ?_; refine Az ?_); exact AJ ⟨rfl, rfl, rfl⟩)) <;> refine A8 ?_)
   repeat refine nx rfl ?_
   (refine AA ?_ <;> refine BK rfl rfl (by first | exact Am (by omega) (by omega) | exact At (by omega) (by omega) | exact Al (by omega) (by omega)) ?_ <;> refine AF rfl ?_)
   repeat refine nx rfl ?_
   refine ⟨(0 + 1, vB, L8 ++ [subC ba (oa + 0 * 5) s.first]), ⟨rfl, ⟨rfl, rfl, rfl, rfl, rfl, rfl, rfl, trivial⟩, ⟨by simp only; omega, keA, ?_⟩⟩, by simp only; omega⟩
   simp only
   rw [htk, List.take_zero, List.nil_append]
   rw [List.take_zero] at hoA aA
   simp only [CX, argP, List.append_nil] at hoA aA ⊢
   refine hoA.app (qs := [.sub x s.first]) (M := [subC ba (oa + 0 * 5) s.first]) (by simpa using aA) ?_
   exact RsAt.one (R := pcR) (a := Pc.sub x s.first) ⟨ba, oa + 0 * 5, rfl, hpf _ (k1.trans (kw.trans nA.keep))⟩
 ·have hkk : k = f.args.length := by omega
  subst hkk
  rw [List.take_length] at hP8
  have hal := argsP_len s.first s.next sg f.args
  have hll : (Cx s n ++ CV sg f.args.length ++ CX s.first s.next sg f.args).length ≤ 2 + 2 * f.args.length := by rw [List.length_append]; omega
  (refine AA ?_ <;> refine BA rfl rfl (by omega) ?_)
  repeat first | refine nx rfl ?_ | refine nf rfl ?_
  have l8 : w8.cell? ⟨w.heap.size, 0 + 1, none⟩ = some (.int .i64 (s.level : Int)) := (bx w8 k8).cell rfl
  have epc : pcs s n f = Cx s n ++ CV sg f.args.length ++ CX s.first s.next sg f.args ++ DJ s n := by unfold pcs; rw [hsgg]
  by_cases hl : s.level < n
  ·(refine AA (AD rfl ?_) <;> refine AG rfl (by assumption) ?_ <;> refine AF rfl ?_ <;> refine BC rfl rfl (by omega) ?_)
   repeat refine nx rfl ?_
   (refine AA (Az ?_) <;> refine Ad (by rfl) (by rfl) ?_)
   refine AV (out := txtC [41]) rfl (by omega) (by kernel_rfl) (fun w9 n9 => ?_)
   have rA := (n9).own (n := 1) (size := 3) rfl (by decide) (Nat.le_refl _)
   have hoA := (hP8).ext (n9).keep
   have zA := (n9).size
   refine Bl (ok := A0) (v := v8) rfl rfl hoA.own (A3 rA fun _ _ => trivial) (by omega) rfl rfl (by intro y hy; simp [txtC, subC] at hy; rcases hy with rfl | rfl | rfl | rfl | rfl | rfl <;> rfl) (by omega) (by omega) (by omega) (fun v9 w10 aA => ?_)
   have keA : Ext w1 w10 := ((k8).trans (n9).keep).keep aA.keep (fun y hy => (BM hoA.own (Option.mem_toList.1 hy)).1)
   ((refine AC ?_; refine Az ?_))
   repeat refine nx rfl ?_
   refine AA (Az (AC (Az ?_)))
   repeat refine nx rfl ?_
   have hfin : PS C w1.heap.size v9 (L8 ++ [txtC [41]]) (pcs s n f) w10 := by
    rw [epc, DJ, if_pos hl]
    exact hoA.app (qs := [.txt [41]]) (M := [txtC [41]]) (by simpa using aA) (txt_fits _ _ _)
   exact AO rfl ⟨k1.trans keA, hnode, _, _, n1.keep.size, hfin⟩
  ·(refine AA (AD rfl ?_) <;> refine AG rfl (by assumption) ?_ <;> refine AF rfl ?_ <;> refine BA rfl rfl (by omega) ?_)
   repeat first | refine nx rfl ?_ | refine nf rfl ?_
   refine AA (Az (AC (Az ?_)))
   repeat refine nx rfl ?_
   have hfin : PS C w1.heap.size v8 L8 (pcs s n f) w8 := by
    rw [epc, DJ, if_neg hl, List.append_nil]
    exact hP8
   exact AO rfl ⟨k1.trans k8, hnode, _, _, n1.keep.size, hfin⟩
end Go.Proofs.YtfcgdbmoncnibaaGreatDoor
namespace Go.Proofs.YtfcgdbmoncnibaaGreatDoor
open Go.RowKit
set_option linter.unusedVariables false
theorem splice_front {d X c : List Value} {k : Nat} : splice (d ++ X) (d.length + k) c = d ++ splice X k c := by
 simp only [splice]
 rw [List.take_length_add_append, Nat.add_assoc, List.drop_length_add_append, List.append_assoc]
theorem splice_row {c rest : List Value} (hc : c.length = 3) : ∀ (M : List (List Value)) (i : Nat), (∀ d ∈ M, d.length = 3) → i < M.length → splice (M.flatten ++ rest) (i * 3) c = (M.set i c).flatten ++ rest
 | [], i, _, h => by simp at h
 | d :: M, 0, hM, _ => by
  have hd := hM d (by simp)
  simp only [splice, List.flatten_cons, List.set_cons_zero, Nat.zero_mul, List.take_zero, List.nil_append, Nat.zero_add, List.append_assoc]
  rw [show c.length = d.length by omega, List.drop_left]
 | d :: M, i + 1, hM, h => by
  have hd := hM d (by simp)
  have ih := splice_row (rest := rest) hc M i (fun x hx => hM x (by simp [hx])) (by simpa using h)
  rw [List.flatten_cons, List.set_cons_succ, List.flatten_cons, List.append_assoc, show (i + 1) * 3 = d.length + i * 3 by rw [hd, Nat.succ_mul]; omega, splice_front, ih, List.append_assoc]
theorem own_rows {w : World} {B e n cap : Nat} {a : Option Addr} {L : List (List Value)} (h : w.ownsRow B e 3 (.slice a n cap) n L.flatten) (hn : 0 < n) :
  ∃ g rest, a = some ⟨g, 0, none⟩ ∧ B ≤ g ∧ Blk w g e (L.flatten ++ rest) ∧ ∀ (W : World) (M : List (List Value)), Blk W g e (M.flatten ++ rest) → M.flatten.length = L.flatten.length → W.ownsRow B e 3 (.slice a n cap) n M.flatten := by
 obtain ⟨hl, hv⟩ := h
 rcases hv with ⟨_, rfl⟩ | ⟨g, cap', cur, hv, hB, hg, h1, h2, h3, h4⟩
 ·omega
 ·cases hv
  refine ⟨g, cur.toList.drop (n * 3), rfl, hB, ?_, fun W M hb hm => ⟨by rw [hm]; exact hl, .inr ⟨g, cap, (M.flatten ++ cur.toList.drop (n * 3)).toArray, rfl, hB, hb, h1, h2, ?_, ?_⟩⟩⟩
  ·rw [← h4, List.take_append_drop]
   simpa [Blk] using hg
  ·have : cur.toList.length = cur.size := by simp
   have hle : n * 3 ≤ cur.toList.length := by
    have := congrArg List.length h4
    rw [List.length_take, hl] at this; omega
   simp only [List.size_toArray, List.length_append, List.length_drop]
   rw [hm, hl]; omega
  ·rw [show n * 3 = M.flatten.length by rw [hm, hl]]
   simp
theorem row_cells {w : World} {g : Nat} {T : TypeId} {M : List (List Value)} {rest : List Value} (h : Blk w g T (M.flatten ++ rest)) (hM : ∀ d ∈ M, d.length = 3) {i : Nat} {c : List Value} (hc : M[i]? = some c) : Cells w g (0 + i * 3) c := by
 intro j u hu
 have h1 := Dc 3 M i j c u hM hc hu
 have hlt := (List.getElem?_eq_some_iff.1 h1).1
 have := h.cells (i * 3 + j) u (by rw [List.getElem?_append_left hlt]; exact h1)
 rw [show 0 + i * 3 + j = 0 + (i * 3 + j) by omega]
 exact this
def RevK (L M : List (List Value)) (k : Nat) : Prop := M.length = L.length ∧ ∀ x, x < L.length → M[x]? = if x < k ∨ L.length ≤ x + k then L[L.length - 1 - x]? else L[x]?
theorem RevK.done {L M : List (List Value)} {k : Nat} (h : RevK L M k) (h2 : L.length ≤ 2 * k + 1) : M = L.reverse := by
 refine List.ext_getElem? fun x => ?_
 by_cases hx : x < L.length
 ·rw [h.2 x hx, List.getElem?_reverse hx]
  split
  ·rfl
  ·rw [show L.length - 1 - x = x by omega]
 ·rw [List.getElem?_eq_none (by rw [h.1]; omega), List.getElem?_eq_none (by simp; omega)]
theorem RevK.step {L M : List (List Value)} {k : Nat} {c d : List Value} (h : RevK L M k) (h2 : 2 * k + 1 < L.length) (hc : L[k]? = some c) (hd : L[L.length - 1 - k]? = some d) : RevK L ((M.set k d).set (L.length - 1 - k) c) (k + 1) := by
 refine ⟨by simp [h.1], fun x hx => ?_⟩
 by_cases h1 : x = L.length - 1 - k
 ·subst h1
  rw [List.getElem?_set_self (by simp [h.1]; omega), if_pos (by omega)]
  rw [show L.length - 1 - (L.length - 1 - k) = k by omega, hc]
 ·rw [List.getElem?_set_ne (Ne.symm h1)]
  by_cases h3 : x = k
  ·subst h3
   rw [List.getElem?_set_self (by rw [h.1]; omega), if_pos (by omega), hd]
  ·rw [List.getElem?_set_ne (Ne.symm h3), h.2 x hx]
   by_cases h4 : x < k ∨ L.length ≤ x + k
   ·rw [if_pos h4, if_pos (by omega)]
   ·rw [if_neg h4, if_neg (by omega)]
set_option maxHeartbeats 1600000 in
theorem reverse_ok (w : World) (C B : Nat) (v : Value) (L : List (List Value)) (ps : List Pc) (h : PS C B v L ps w) :
  Fn Tryz.prog 78 [v] w fun _ w' => PS C B v L.reverse ps.reverse w' ∧ Keep v.ownBlock.toList w w' := by
 obtain ⟨a, cp, rfl⟩ := h.form
 have hLl : L.length = ps.length := h.rs.1
 have hL3 : ∀ d ∈ L, d.length = 3 := h.rs.len
 have hrev : ∀ W, Keep (Value.slice a ps.length cp).ownBlock.toList w W → RsAt pcR (fun b => b < C) W L.reverse ps.reverse := fun W k => by
  have hX : ∀ b, b < C → b ∉ (Value.slice a ps.length cp).ownBlock.toList := fun b hb hx => by
   have := (BM h.own (Option.mem_toList.1 hx)).1; have := h.le; omega
  have F := h.rs.keep k hX
  refine ⟨by simp [hLl], fun i c p hc hp => ?_⟩
  have hi : i < L.length := by have := (List.getElem?_eq_some_iff.1 hc).1; simpa using this
  rw [List.getElem?_reverse hi] at hc
  rw [List.getElem?_reverse (by omega), ← hLl] at hp
  exact F.2 _ c p hc hp
 refine Ab Tryz.func78 rfl Tryz.ntmps78 (Nat.le_of_ble_eq_true rfl) (by kernel_rfl) ?_
 repeat refine nx rfl ?_
 have hmax : ps.length ≤ 9223372036854775807 := by
  obtain ⟨_, hv⟩ := h.own
  rcases hv with ⟨_, h0⟩ | ⟨g, cap', cur, hv, hB, hg, h1, h2, h3, h4⟩
  ·omega
  ·cases hv; simp only [maxLen] at h2; omega
 (refine AA (Ae rfl (As rfl (W_sub rfl rfl (by first | exact Am (by omega) (by omega) | exact At (by omega) (by omega) | exact Al (by omega) (by omega)) ?_))) <;> refine AC (AF rfl (AC (AF rfl ?_))))
 repeat refine nx rfl ?_
 by_cases hn : ps.length = 0
 ·have hp0 : ps = [] := List.length_eq_zero_iff.1 hn
  have hL0 : L = [] := List.length_eq_zero_iff.1 (by omega)
  refine BJ (α := Unit) (fun _ => [(2, .int .i64 0), (3, .int .i64 (-1))]) (fun _ W => W = w) (fun _ => 0) () ⟨rfl, congrArg (Value.int .i64) (by rw [hn]; rfl), trivial⟩ rfl ?_
  rintro _ W f1 rfl
  repeat refine nx rfl ?_
  refine AA (AF rfl (AF rfl (BA rfl rfl (by omega) ?_)))
  repeat first | refine nx rfl ?_ | refine nf rfl ?_
  refine A1 rfl ⟨?_, Keep.refl _ _⟩
  subst hp0; subst hL0
  exact h
 ·obtain ⟨g, rest, rfl, hBg, hblk, hback⟩ := own_rows h.own (by omega)
  refine BJ (α := Nat × List (List Value)) (fun x => [(0, .slice (some ⟨g, 0, none⟩) ps.length cp), (2, .int .i64 (x.1 : Int)), (3, .int .i64 ((ps.length : Int) - 1 - (x.1 : Int)))])
   (fun x W => 2 * x.1 ≤ ps.length ∧ Keep [g] w W ∧ Blk W g 125 (x.2.flatten ++ rest) ∧ (∀ d ∈ x.2, d.length = 3) ∧ RevK L x.2 x.1) (fun x => ps.length - x.1) (0, L) ⟨rfl, rfl, congrArg (Value.int .i64) (by simp), trivial⟩
   ⟨by simp, Keep.refl _ _, hblk, hL3, rfl, fun x hx => by rw [if_neg (by simp only; omega)]⟩ ?_
  rintro ⟨k, M⟩ w1 f1 ⟨hk, k1, b1, hM3, hR⟩
  simp only at hk k1 b1 hM3 hR ⊢
  repeat refine nx rfl ?_
  by_cases hlt : 2 * k + 1 < ps.length
  ·obtain ⟨c, hcL⟩ : ∃ c, L[k]? = some c := ⟨_, List.getElem?_eq_getElem (by omega)⟩
   obtain ⟨d, hd⟩ : ∃ d, L[L.length - 1 - k]? = some d := ⟨_, List.getElem?_eq_getElem (by omega)⟩
   have hMc : M[k]? = some c := by rw [hR.2 k (by omega), if_neg (by omega)]; exact hcL
   have hMd : M[ps.length - 1 - k]? = some d := by
    rw [hR.2 _ (by omega), if_neg (by omega), ← hLl]; exact hd
   have c3 := hL3 c (List.mem_of_getElem? hcL)
   have d3 := hL3 d (List.mem_of_getElem? hd)
   have ej : (ps.length : Int) - 1 - (k : Int) = ((ps.length - 1 - k : Nat) : Int) := by omega
   rw [ej]
   refine AA (AF rfl (AF rfl (BC rfl rfl (by omega) ?_)))
   repeat refine nx rfl ?_
   refine Bb (.read 0 (.read 1 (.read 2 (.read 3 (.read 4 (.read 5 (.read 6 (.read 8 (.read 9 (.read 10 (.alt 7 (.alt 11 (.read 12 (.alt 13 (.read 14 (.alt 15 .done .stop)) .stop)) .stop) (.alt 11 (.alt 7 (.read 12 (.alt 13 (.read 14 (.alt 15 .done .stop)) .stop)) .stop) .stop)))))))))))) BP (by kernel_rfl) (fun wd kd ed => ⟨fun _ => True, ?_, ?_⟩)
   ·trivial
   have bd := b1.keep kd (by simp)
   have oc : oneC c := by
    obtain ⟨p, hp⟩ : ∃ p, ps[k]? = some p := ⟨_, List.getElem?_eq_getElem (by omega)⟩
    exact pcR.one (h.rs.2 _ c p hcL hp)
   have od : oneC d := by
    obtain ⟨p, hp⟩ : ∃ p, ps[L.length - 1 - k]? = some p := ⟨_, List.getElem?_eq_getElem (by omega)⟩
    exact pcR.one (h.rs.2 _ d p hd hp)
   have hML : M.length = ps.length := by rw [hR.1, hLl]
   have hflat : (M.flatten ++ rest).length ≥ ps.length * 3 := by
    rw [List.length_append, flat_len 3 _ hM3, hML]; omega
   refine D_R rfl rfl (fun W hW => Ae rfl Z3) (D_R rfl rfl (fun W hW => AF rfl Z3) (D_R rfl rfl (fun W hW => Ae rfl Z3) (D_R rfl rfl (fun W hW => AF rfl Z3) (D_R rfl rfl (fun W hW => Ae rfl Z3) (D_R rfl rfl (fun W hW => AF rfl Z3) (D_R rfl rfl (fun W hW => CD rfl rfl rfl (by omega) Z3) (D_R rfl rfl (fun W hW => Ae rfl Z3) (D_R rfl rfl (fun W hW => AF rfl Z3) (D_R rfl rfl (fun W hW => CD rfl rfl rfl (by omega) Z3) ?_)))))))))
   refine D_A rfl ?_ (D_E rfl ?_)
   ·refine Ac rfl d3 (row_cells bd hM3 hMd) ?_
    refine AJ ⟨_, fun _ h => h, trivial, ?_⟩
    refine D_E rfl ?_
    refine Ac rfl c3 (row_cells bd hM3 hMc) ?_
    refine AJ ⟨_, fun _ h => h, trivial, ?_⟩
    (apply D_R rfl rfl; (intro W hW; refine CD (k := k) rfl rfl rfl (by omega) ?_; exact AJ ⟨rfl, rfl, rfl⟩))
    refine D_E rfl ?_
    refine AZ (cs := d) rfl rfl d3 od bd (by omega) (fun w2 p2 => ?_)
    have b2 := p2.blk
    rw [Nat.zero_add, splice_row d3 M k hM3 (by omega)] at b2
    have hM3' : ∀ x ∈ M.set k d, x.length = 3 := fun x hx => by
     rcases List.mem_or_eq_of_mem_set hx with hx | rfl
     ·exact hM3 x hx
     ·exact d3
    refine AJ ⟨_, fun _ h => h, trivial, ?_⟩
    (apply D_R rfl rfl; (intro W hW; refine CD (k := ps.length - 1 - k) rfl rfl rfl (by omega) ?_; exact AJ ⟨rfl, rfl, rfl⟩))
    refine D_E rfl ?_
    refine AZ (cs := c) rfl rfl c3 oc b2 (by rw [List.length_append, flat_len 3 _ hM3', List.length_set, hML]; omega) (fun w3 p3 => ?_)
    have b3 := p3.blk
    rw [Nat.zero_add, splice_row c3 (M.set k d) (ps.length - 1 - k) hM3' (by rw [List.length_set]; omega)] at b3
    have hM3'' : ∀ x ∈ (M.set k d).set (ps.length - 1 - k) c, x.length = 3 := fun x hx => by
     rcases List.mem_or_eq_of_mem_set hx with hx | rfl
     ·exact hM3' x hx
     ·exact c3
    refine AJ ⟨_, fun _ h => h, trivial, ?_⟩
    refine A8 ?_
    repeat refine nx rfl ?_
    (refine AA (AF rfl (BK rfl rfl (by first | exact Am (by omega) (by omega) | exact At (by omega) (by omega) | exact Al (by omega) (by omega)) ?_)) <;> refine AF rfl (W_sub rfl rfl (by first | exact Am (by omega) (by omega) | exact At (by omega) (by omega) | exact Al (by omega) (by omega)) ?_) <;> refine AC (AF rfl (AC (AF rfl ?_))))
    repeat refine nx rfl ?_
    refine ⟨(k + 1, (M.set k d).set (ps.length - 1 - k) c), ⟨rfl, ⟨rfl, ?_, ?_, trivial⟩, ⟨by simp only; omega, ((k1.ext kd).trans p2.keep (by simp)).trans p3.keep (by simp), b3, hM3'', ?_⟩⟩, by simp only; omega⟩
    ·show Value.int .i64 ((k : Int) + 1) = _
     rw [Int.natCast_add]; rfl
    ·refine congrArg (Value.int .i64) ?_
     show ((ps.length - 1 - k : Nat) : Int) - 1 = (ps.length : Int) - 1 - ((k + 1 : Nat) : Int)
     omega
    ·simp only
     rw [← hLl]
     exact hR.step (by omega) hcL hd
   ·refine Ac rfl c3 (row_cells bd hM3 hMc) ?_
    refine AJ ⟨_, fun _ h => h, trivial, ?_⟩
    refine D_E rfl ?_
    refine Ac rfl d3 (row_cells bd hM3 hMd) ?_
    refine AJ ⟨_, fun _ h => h, trivial, ?_⟩
    (apply D_R rfl rfl; (intro W hW; refine CD (k := k) rfl rfl rfl (by omega) ?_; exact AJ ⟨rfl, rfl, rfl⟩))
    refine D_E rfl ?_
    refine AZ (cs := d) rfl rfl d3 od bd (by omega) (fun w2 p2 => ?_)
    have b2 := p2.blk
    rw [Nat.zero_add, splice_row d3 M k hM3 (by omega)] at b2
    have hM3' : ∀ x ∈ M.set k d, x.length = 3 := fun x hx => by
     rcases List.mem_or_eq_of_mem_set hx with hx | rfl
     ·exact hM3 x hx
     ·exact d3
    refine AJ ⟨_, fun _ h => h, trivial, ?_⟩
    (apply D_R rfl rfl; (intro W hW; refine CD (k := ps.length - 1 - k) rfl rfl rfl (by omega) ?_; exact AJ ⟨rfl, rfl, rfl⟩))
    refine D_E rfl ?_
    refine AZ (cs := c) rfl rfl c3 oc b2 (by rw [List.length_append, flat_len 3 _ hM3', List.length_set, hML]; omega) (fun w3 p3 => ?_)
    have b3 := p3.blk
    rw [Nat.zero_add, splice_row c3 (M.set k d) (ps.length - 1 - k) hM3' (by rw [List.length_set]; omega)] at b3
    have hM3'' : ∀ x ∈ (M.set k d).set (ps.length - 1 - k) c, x.length = 3 := fun x hx => by
     rcases List.mem_or_eq_of_mem_set hx with hx | rfl
     ·exact hM3' x hx
     ·exact c3
    refine AJ ⟨_, fun _ h => h, trivial, ?_⟩
    refine A8 ?_
    repeat refine nx rfl ?_
    (refine AA (AF rfl (BK rfl rfl (by first | exact Am (by omega) (by omega) | exact At (by omega) (by omega) | exact Al (by omega) (by omega)) ?_)) <;> refine AF rfl (W_sub rfl rfl (by first | exact Am (by omega) (by omega) | exact At (by omega) (by omega) | exact Al (by omega) (by omega)) ?_) <;> refine AC (AF rfl (AC (AF rfl ?_))))
    repeat refine nx rfl ?_
    refine ⟨(k + 1, (M.set k d).set (ps.length - 1 - k) c), ⟨rfl, ⟨rfl, ?_, ?_, trivial⟩, ⟨by simp only; omega, ((k1.ext kd).trans p2.keep (by simp)).trans p3.keep (by simp), b3, hM3'', ?_⟩⟩, by simp only; omega⟩
    ·show Value.int .i64 ((k : Int) + 1) = _
     rw [Int.natCast_add]; rfl
    ·refine congrArg (Value.int .i64) ?_
     show ((ps.length - 1 - k : Nat) : Int) - 1 = (ps.length : Int) - 1 - ((k + 1 : Nat) : Int)
     omega
    ·simp only
     rw [← hLl]
     exact hR.step (by omega) hcL hd
  ·refine AA (AF rfl (AF rfl (BA rfl rfl (by omega) ?_)))
   repeat first | refine nx rfl ?_ | refine nf rfl ?_
   have e := hR.done (by omega)
   subst e
   have kw : Keep (Value.slice (some ⟨g, 0, none⟩) ps.length cp).ownBlock.toList w w1 := k1.mono (by simp [Value.ownBlock])
   refine A1 rfl ⟨⟨?_, hrev _ kw, h.le⟩, kw⟩
   rw [List.length_reverse]
   exact hback w1 _ b1 (by rw [flat_len 3 _ hM3, flat_len 3 _ hL3, List.length_reverse])
end Go.Proofs.YtfcgdbmoncnibaaGreatDoor
namespace Go.Proofs.YtfcgdbmoncnibaaGreatDoor
open Go.RowKit
set_option linter.unusedVariables false
variable {mk : Prop} [MK mk]
section
attribute [local semireducible] WC AW B6 BZ B8 Cw DY By
variable {P : Program} {all : Array Oper} {Z : Fr → DS → List PanicEntry → World → Prop} {K : Fr → DS → World → Prop} {rest : List Oper} {f : Fr} {ds : DS} {w : World} {d : Nat} {ty : TypeId} {pos : String} {af : Array Edge}
class PtrT (P : Program) (T : TypeId) (e : outParam TypeId) : Prop where
 und : P.underlying T = some (.pointer e)
 info : ∃ j, P.info? e = some j ∧ j.size ≠ 0
theorem ptrT_of {T e : TypeId} (h : P.underlying T = some (.pointer e)) (h2 : ((P.info? e).map fun j => decide (j.size ≠ 0)) = some true) : PtrT P T e := by
 obtain ⟨j, hj, h3⟩ := Option.map_eq_some_iff.1 h2
 exact ⟨h, j, hj, by simpa using h3⟩
theorem run_eql_none {T e : TypeId} (hT : P.underlying T = some (.pointer e)) : (binOp .eql T (.pointer none) (.pointer none)).run P w = .ok (.bool true) w := by
 have h : ∀ d : Nat, (Op.equalIn (d + 1) T (.pointer none) (.pointer none)).run P w = .ok true w := fun d => by
  simp [Op.equalIn, run_underlying hT]
 simp only [binOp]
 simp [Op.equal, Op.maxDepth, h 9999]
theorem run_eql_some {T e : TypeId} (hT : P.underlying T = some (.pointer e)) (a : Addr) : (binOp .eql T (.pointer (some a)) (.pointer none)).run P w = .ok (.bool false) w := by
 have h : ∀ d : Nat, (Op.equalIn (d + 1) T (.pointer (some a)) (.pointer none)).run P w = .ok false w := fun d => by
  simp [Op.equalIn, run_underlying hT]
 simp only [binOp]
 simp [Op.equal, Op.maxDepth, h 9999]
theorem W_ptrNil {T yt e : TypeId} {x : Operand} {p : Option Addr} [hT : PtrT P T e] (hx : ev f x = .pointer p) (h : AW P all Z K rest (upd f d (.bool p.isNone)) ds w) :
  AW P all Z K (⟨some d, .binOp .eql T x (.const (.pointer none)) yt, ty, pos, af, none⟩ :: rest) f ds w := by
 refine A5 rfl ?_ h
 have hy : ev f (.const (.pointer none)) = .pointer none := rfl
 cases p with
 | none => simp [execOp, hx, hy, eqGuard, run_eql_none hT.und]
 | some a => simp [execOp, hx, hy, eqGuard, run_eql_some hT.und]
theorem W_ptrNeqSame {T yt e : TypeId} {x y : Operand} {a : Addr} [hT : PtrT P T e] (hx : ev f x = .pointer (some a)) (hy : ev f y = .pointer (some a)) (h : AW P all Z K rest (upd f d (.bool false)) ds w) :
  AW P all Z K (⟨some d, .binOp .neq T x y yt, ty, pos, af, none⟩ :: rest) f ds w := by
 refine A5 rfl ?_ h
 obtain ⟨j, hj, _⟩ := hT.info
 simp [execOp, hx, hy, eqGuard, Lib.run_neq_ptr_same w a hT.und hj]
end
instance : PtrT Tryz.prog 76 24 := ptrT_of Tryz.underlying76 (by kernel_rfl)
end Go.Proofs.YtfcgdbmoncnibaaGreatDoor
