/- New formulas with other values of the past nodes: past.remembers, changed. The past nodes of a formula, one after the other: the iterator walked. A question asked of all nodes of a formula: the loops of formula.bare, Past, Layered, Valid at once. A loop over the past nodes of a formula; what is done with each. The order of formulas: two nodes compared, walked. Rules: pointers compared. The order of formulas: lists of formulas in memory; the stack of Compare. The order of formulas: the stack of Compare. Conditions: none. -/
import Derived.Test.YtkhhjdjmhbdjfaaGreatDoorQT4
import Derived.Test.YtkhhjdjmhbdjfaaGreatDoorShc
import Derived.Lib.Builder
import Derived.LaidEql

namespace Go.Proofs.YtkhhjdjmhbdjfaaGreatDoor
open Go.RowKit
set_option linter.unusedVariables false
variable {mk : Prop} [MK mk]
theorem remembers_ok (w : World) (n : Int) : Fn Tryz.prog 58 [.int .i64 n] w fun v w' => v = .bool (Cm n) ∧ w' = w := by
 have h15 : n = 15 ∨ n = 16 ∨ n = 17 ∨ (n ≠ 15 ∧ n ≠ 16 ∧ n ≠ 17) := by omega
 refine AR Tryz.func58 rfl Tryz.ntmps58 (Nat.le_of_ble_eq_true rfl) (by kernel_rfl) ?_
 repeat refine nx rfl ?_
 refine AA (AC (AB rfl ?_))
 repeat refine nx rfl ?_
 rcases h15 with rfl | rfl | rfl | h
 case inr.inr.inr =>
  have hr : Cm n = false := by simp [Cm]; omega
  rw [hr]
  refine AA (AG rfl (AT rfl rfl (by omega) (AB rfl (AE rfl (AG rfl (AE rfl (AT rfl rfl (by omega) (AJ rfl (AB rfl (AB rfl (AE rfl (AG rfl (AE rfl (AT rfl rfl (by omega) (AJ rfl (AB rfl (AC (AB rfl ?_))))))))))))))))))
  repeat refine nx rfl ?_
  exact AI rfl ⟨rfl, rfl⟩
 all_goals
  (refine AA (AG rfl ?_) <;> (refine CC rfl rfl (fun hc => ?_) (fun hc => ?_) <;> try omega) <;> refine AB rfl ?_ <;> (first | refine AL rfl ?_ | (refine AE rfl ?_; refine AG rfl ?_)) <;> (first | refine AL rfl ?_ | (refine AE rfl ?_; (refine CC rfl rfl (fun hc => ?_) (fun hc => ?_) <;> try omega))) <;> ((first | refine AK rfl ?_ | refine AJ rfl ?_); refine AB rfl ?_) <;> refine AB rfl ?_ <;> (first | refine AL rfl ?_ | (refine AE rfl ?_; refine AG rfl ?_)) <;> (first | refine AL rfl ?_ | (refine AE rfl ?_; refine Ai rfl rfl (by omega) ?_)) <;> ((first | refine AK rfl ?_ | refine AJ rfl ?_); refine AB rfl ?_) <;> refine AC (AB rfl ?_))
  repeat refine nx rfl ?_
  exact AI rfl ⟨rfl, rfl⟩
structure ValR (fv : Value) (w0 : World) (Pn : Fml → Prop) (val : Fml → Int) : Prop where
 fn : ∃ (g : FuncId) (cap : List Value), AS Tryz.prog g ∧ fv = .func (.func g) #[] cap.toArray ∧ ∀ (W : World) (b o : Nat) (x : Fml), Ext w0 W → PF (fun b => b < w0.heap.size) W b o x → Pn x → Cm x.op = true → Fn Tryz.prog g (.pointer (some ⟨b, o, none⟩) :: cap) W fun u W' => u = .int .i64 (val x) ∧ Ext W W'
 sub : ∀ x, Pn x → ∀ a ∈ x.args, Pn a
theorem changed_ok {fv : Value} {w0 : World} {Pn : Fml → Prop} {val : Fml → Int} (H : ValR fv w0 Pn val) : ∀ (n : Nat) (w : World) (b o : Nat) (f : Fml), dpF f ≤ n → szF f ≤ 1000 → Ext w0 w → PF (fun b => b < w0.heap.size) w b o f → Pn f →
  Fn Tryz.prog 26 [.pointer (some ⟨b, o, none⟩), fv] w fun u w' => Ext w w' ∧ FAt (fun b => w.heap.size ≤ b) w' u (chF val f) := by
 intro n
 induction n with
 | zero => intro w b o f hd; rw [Bd] at hd; omega
 | succ n ih =>
 intro w b o f hd hz e0 hf hP
 obtain ⟨op, nm, vl, bd, args⟩ := f
 obtain ⟨g, cap, hg, rfl, hfn⟩ := H.fn
 have hla := CQ args
 rw [Bd] at hd
 rw [BW] at hz
 simp only [Fml.args] at hd hz
 rw [chF_eq]
 refine AR Tryz.func26 rfl Tryz.ntmps26 (Nat.le_of_ble_eq_true rfl) (by kernel_rfl) ?_
 repeat refine nx rfl ?_
 (refine AA ?_; refine Ar (fun w1 n1 => ?_))
 repeat refine nx rfl ?_
 have z1 := n1.size
 have hf1 := hf.keep n1.keep (fun _ _ => by simp)
 obtain ⟨aa, cc, _, q0, q1, q2, q3, q4, _⟩ := hf1.all
 refine Ad (.read 0 (.read 1 (.read 2 (.read 3 (.read 4 (.read 5 (.read 6 (.read 7 (.read 8 (.read 9 (.read 10 (.read 11 (.read 12 (.read 13 (.read 14 (.read 15 (.read 16 (.alt 17 (.alt 18 .done .stop) .stop)))))))))))))))))) Ax (by kernel_rfl) (fun wd kd ed => ⟨Ext wd, ?_, ?_⟩)
 ·exact Ext.refl _
 have s0 : ∀ V, Ext wd V → V.cell? ⟨b, o + 0, none⟩ = some (.int .i64 op) := fun V e => (kd.trans e).cell q0 (by simp)
 have s1 : ∀ V, Ext wd V → V.cell? ⟨b, o + 1, none⟩ = some (An nm) := fun V e => (kd.trans e).cell q1 (by simp)
 have s2 : ∀ V, Ext wd V → V.cell? ⟨b, o + 2, none⟩ = some (.int .i64 vl) := fun V e => (kd.trans e).cell q2 (by simp)
 have s3 : ∀ V, Ext wd V → V.cell? ⟨b, o + 3, none⟩ = some (.int .i64 bd) := fun V e => (kd.trans e).cell q3 (by simp)
 (refine D_R rfl rfl (fun W hW => AP rfl Z3) (D_R rfl rfl (fun W hW => AH rfl Z3) (D_R rfl rfl (fun W hW => AD rfl Z3) (D_R rfl rfl (fun W hW => AF rfl (s0 W hW) Z3) (D_R rfl rfl (fun W hW => AP rfl Z3) (D_R rfl rfl (fun W hW => AH rfl Z3) (D_R rfl rfl (fun W hW => AD rfl Z3) (D_R rfl rfl (fun W hW => AF rfl (s1 W hW) Z3) (D_R rfl rfl (fun W hW => AP rfl Z3) (D_R rfl rfl (fun W hW => AH rfl Z3) (D_R rfl rfl (fun W hW => AD rfl Z3) (D_R rfl rfl (fun W hW => AF rfl (s2 W hW) Z3) (D_R rfl rfl (fun W hW => AP rfl Z3) (D_R rfl rfl (fun W hW => AH rfl Z3) (D_R rfl rfl (fun W hW => AD rfl Z3) (D_R rfl rfl (fun W hW => AF rfl (s3 W hW) Z3) ?_))))))))))))))) <;> (apply D_R rfl rfl; (intro W hW; refine BE (by rfl) (by rfl) ?_; exact Z3)))
 refine D_E rfl ?_
 refine Ar (L := zero5) (fun w2 n2 => ?_)
 refine AO ⟨Ext wd, fun _ e => e, n2.keep, ?_⟩
 refine D_E rfl ?_
 refine AU (cs := [.int .i64 op, An nm, .int .i64 vl, .int .i64 bd, .slice none 0 0]) rfl rfl rfl (Ap rfl) n2.blk (by simp [zero5]) (fun w3 p3 => ?_)
 refine AO ⟨Ext wd, fun _ e => e, n2.keep.keep p3.keep (by simp), ?_⟩
 refine Ah ?_
 clear s0 s1 s2 s3 q0 q1 q2 q3 q4
 have z2 := n2.size
 have z3 := p3.size
 have zd := kd.size
 have b3 : Blk w3 wd.heap.size 25 [.int .i64 op, An nm, .int .i64 vl, .int .i64 bd, .slice none 0 0] := p3.blk
 have k23 : Ext wd w3 := n2.keep.keep p3.keep (by simp)
 have k13 : Ext w1 w3 := kd.trans k23
 have k3 : Ext w w3 := n1.keep.trans k13
 have b4 : Blk w3 w.heap.size 25 zero5 := n1.blk.keep k13 (by simp)
 have hf3 := hf.keep k3 (fun _ _ => by simp)
 have hfw := hf
 have q0 := hf3.opc
 obtain ⟨c5, hc5⟩ : ∃ c5, c5 = wd.heap.size := ⟨_, rfl⟩
 rw [← hc5] at b3 ⊢
 have hc5w : w1.heap.size ≤ c5 := by omega
 have hc5l : c5 < w3.heap.size := by omega
 clear n1 n2 p3 kd ed k23 k13 hf1 z2 z3 zd hf hc5
 repeat refine nx rfl ?_
 refine AA (AP rfl (AH rfl (AD rfl (AF rfl (by assumption) ?_))))
 refine AQ (remembers_ok w3 op) rfl ?_
 rintro _ w3 ⟨rfl, rfl⟩
 refine AO ?_
 refine Q_then ?_
 refine Cn (α := Unit) (fun _ => [(0, .pointer (some ⟨b, o, none⟩)), (1, .func (.func g) #[] cap.toArray), (4, pt w.heap.size), (5, pt c5)]) (fun _ W => Ext w W ∧ Blk W c5 25 [.int .i64 op, An nm, .int .i64 (if Cm op then val ⟨op, nm, vl, bd, args⟩ else vl), .int .i64 bd, .slice none 0 0] ∧ Blk W w.heap.size 25 zero5) ?_ ?_
 ·cases hr : Cm op with
  | false =>
   repeat first | refine nx rfl ?_ | refine nf rfl ?_
   exact A0 () ⟨rfl, rfl, rfl, rfl, trivial⟩ ⟨k3, b3, b4⟩
  | true =>
   repeat refine nx rfl ?_
   refine AA (Bq rfl (AP rfl ?_))
   refine BO (v1 := []) (v2 := cap) (vs := [.pointer (some ⟨b, o, none⟩)]) rfl (hfn w3 b o _ (e0.trans k3) hf3 hP hr) rfl ?_
   rintro _ w4 ⟨rfl, k4⟩
   refine AD rfl ?_
   refine Aa (v := .int .i64 (val ⟨op, nm, vl, bd, args⟩)) rfl rfl rfl (b3.keep k4 (by simp)) (by simp) (fun w5 p5 => ?_)
   refine AO ?_
   exact A0 () ⟨rfl, rfl, rfl, rfl, trivial⟩ ⟨(k3.trans k4).keep p5.keep (by simp; omega), p5.blk, (b4.keep k4 (by simp)).keep p5.keep (by simp; omega)⟩
 rintro _ w4 f4 ⟨k4, b5, b4'⟩
 clear b3 b4 q0 hf3 k3 hc5l
 have hf4 := hfw.keep k4 (fun _ _ => by simp)
 obtain ⟨aa, cc, _, hargs, _⟩ := hf4.arg
 simp only [Fml.args] at hargs
 repeat refine nx rfl ?_
 (refine AA (AP rfl (AH rfl (AD rfl (AF rfl (by assumption) ?_)))) <;> refine AZ rfl (AG rfl ?_))
 repeat refine nx rfl ?_
 refine A3 (α := Nat × Value × List (List Value)) (fun x => [(0, .pointer (some ⟨b, o, none⟩)), (1, .func (.func g) #[] cap.toArray), (4, pt w.heap.size), (5, pt c5), (37, .int .i64 (args.length : Int)), (38, .int .i64 (x.1 : Int))])
  (fun x W => x.1 ≤ args.length ∧ Ext w W ∧ Bld w1 W c5 op nm (if Cm op then val ⟨op, nm, vl, bd, args⟩ else vl) bd ((args.take x.1).map (chF val)) x.2.1 x.2.2 ∧ Blk W w.heap.size 25 zero5 ∧ c5 < W.heap.size) (fun x => args.length - x.1) (0, .slice none 0 0, []) ⟨rfl, rfl, rfl, rfl, rfl, rfl, trivial⟩ ⟨by simp, k4, by simpa using Bld.start b5, b4', b5.lt⟩ ?_
 rintro ⟨k, v, L⟩ W fr ⟨hk, kW, bW, bz, hcW⟩
 simp only at hk kW bW bz hcW
 repeat refine nx rfl ?_
 by_cases hlt : k < args.length
 ·refine AA (At rfl rfl (by omega) ?_)
  repeat refine nx rfl ?_
  refine AA (AG rfl (AC (AG rfl ?_)))
  repeat refine nx rfl ?_
  obtain ⟨x, hx⟩ : ∃ x, args[k]? = some x := ⟨_, List.getElem?_eq_getElem hlt⟩
  have hfW := hfw.keep kW (fun _ _ => by simp)
  obtain ⟨aa, cc, _, hargs, hel⟩ := hfW.arg
  simp only [Fml.args] at hargs hel
  obtain ⟨b', o', rfl, hfx⟩ := hel k x hx
  refine Ad (.read 0 (.read 2 (.read 3 (.read 4 (.read 5 (.read 6 (.read 7 (.read 8 (.alt 1 (.alt 9 (.alt 10 (.alt 11 (.read 12 (.alt 13 .done .stop)) .stop) .stop) .stop) (.alt 9 (.alt 1 (.alt 10 (.alt 11 (.read 12 (.alt 13 .done .stop)) .stop) .stop) (.alt 10 (.alt 1 (.alt 11 (.read 12 (.alt 13 .done .stop)) .stop) .stop) .stop)) .stop)))))))))) Ax (by kernel_rfl) (fun wd kd ed => ⟨fun V => V.cell? ⟨b, o + 4, none⟩ = some (.slice (some ⟨b', o', none⟩) args.length cc), ?_, ?_⟩)
  ·exact kd.cell hargs (by simp)
  have ca : ∀ V : World, V.cell? ⟨b, o + 4, none⟩ = some (.slice (some ⟨b', o', none⟩) args.length cc) → V.cell? ⟨b, o + 4, none⟩ = some (.slice (some ⟨b', o', none⟩) args.length cc) := fun V e => e
  refine D_R rfl rfl (fun W hW => AD rfl Z3) (D_R rfl rfl (fun W hW => AP rfl Z3) (D_R rfl rfl (fun W hW => AH rfl Z3) (D_R rfl rfl (fun W hW => AD rfl Z3) (D_R rfl rfl (fun W hW => AF rfl (ca W hW) Z3) (D_R rfl rfl (fun W hW => AG rfl Z3) (D_R rfl rfl (fun W hW => Au rfl rfl rfl (by omega) Z3) (D_R rfl rfl (fun W hW => Bq rfl Z3) ?_)))))))
  have hSd : wd.cell? ⟨b, o + 4, none⟩ = some (.slice (some ⟨b', o', none⟩) args.length cc) := kd.cell hargs (by simp)
  have bd' := bW.ext kd
  have hbw : b < w.heap.size := by have := hf4.1; have := e0.size; omega
  have zd := kd.size
  have hmx := List.mem_of_getElem? hx
  have hdx := Bp hmx
  have hzx := BY hmx
  have hgB : ∀ g, v.ownBlock = some g → g < wd.heap.size := fun g hg => (Aw bd'.own hg).2
  refine D_A rfl ?_ ?_
  ·refine AF rfl (bd'.blk.cell (o := 4) rfl) ?_
   refine AO ⟨_, fun _ h => h, hSd, ?_⟩
   refine D_E rfl ?_
   refine AQ (ih wd b' (o' + k * 5) x (by omega) (by omega) (e0.trans (kW.trans kd)) (hfx.keep kd (fun _ _ => by simp)) (H.sub _ hP x hmx)) rfl ?_
   rintro u8 w8 ⟨k8, f8⟩
   obtain ⟨cs, rfl, hcs, hone⟩ := f8.cells
   obtain ⟨x0, x1, x2, x3, x4, rfl⟩ := A7 hcs
   have hS8 := k8.cell hSd (by simp)
   have b8 := bd'.ext k8
   have z8 := k8.size
   refine AO ⟨_, fun _ h => h, hS8, ?_⟩
   refine D_E rfl ?_
   refine Ab (out := [x0, x1, x2, x3, x4]) rfl (by omega) (by rw [CV]; rfl) (fun w9 n9 => ?_)
   have hS9 := n9.keep.cell hS8 (by simp)
   have b9 := b8.ext n9.keep
   refine AO ⟨_, fun _ h => h, hS9, ?_⟩
   refine D_E rfl ?_
   have o9 := n9.own (n := 1) (size := 5) rfl (by unfold maxLen; omega) (Nat.le_refl _)
   have z9 := n9.size
   have hlen : ((args.take k).map (chF val)).length = k := by simp; omega
   refine BD (ok := As) (v := v) (sv := .slice (some ⟨w8.heap.size, 0, none⟩) 1 1) rfl rfl b9.own (Az o9 fun _ _ => trivial) (by omega) rfl rfl hone (by omega) (by omega) (by omega) (fun v10 w10 a10 => ?_)
   have z10 := a10.keep.size
   have hS10 := a10.keep.cell hS9 (fun hx => by have := Aw b9.own (Option.mem_toList.1 hx); omega)
   refine AO ⟨_, fun _ h => h, hS10, ?_⟩
   ((apply D_R rfl rfl; (intro W hW; refine AD rfl ?_; exact AO ⟨rfl, rfl, rfl⟩)))
   refine D_E rfl ?_
   have hm10 : c5 ∉ v.ownBlock.toList := fun hx => b9.ne _ (Option.mem_toList.1 hx) rfl
   refine Aa (v := v10) rfl rfl (own_oneC a10.own) (b9.blk.keep a10.keep hm10) (by simp) (fun w11 p11 => ?_)
   refine AO ⟨_, fun _ h => h, p11.keep.cell hS10 (by simp; omega), ?_⟩
   refine Ah ?_
   obtain ⟨hB, kB⟩ := b8.push (B := wd.heap.size) ⟨by omega, by omega⟩ hgB (by omega) (by omega) f8 rfl n9 a10 p11 rfl
   have kD : Ext w w11 := ((kW.trans kd).trans k8).keep kB (fun y hy => by
    rcases List.mem_cons.1 hy with rfl | hy
    ·omega
    ·have := (Aw b8.own (Option.mem_toList.1 hy)).1; omega)
   repeat refine nx rfl ?_
   (refine AA (Av rfl rfl (by first | exact AV (by omega) (by omega) | exact AY (by omega) (by omega) | exact AW (by omega) (by omega)) ?_) <;> refine AG rfl ?_)
   repeat refine nx rfl ?_
   refine ⟨(k + 1, v10, L ++ [[x0, x1, x2, x3, x4]]), ⟨rfl, ⟨rfl, rfl, rfl, rfl, rfl, ?_, trivial⟩, ⟨by simp only; omega, kD, ?_, (bz.keep (kd.trans k8) (by simp)).keep kB ?_, by have := kB.size; omega⟩⟩, by simp only; omega⟩
   ·show Value.int .i64 ((k : Int) + 1) = _
    rw [Int.natCast_add]; rfl
   ·simp only
    rw [List.take_add_one, hx, List.map_append]
    exact hB
   ·intro hy
    rcases List.mem_cons.1 hy with e | hy
    ·omega
    ·have := (Aw bW.own (Option.mem_toList.1 hy)).1
     omega
  refine D_E rfl ?_
  refine AQ (ih wd b' (o' + k * 5) x (by omega) (by omega) (e0.trans (kW.trans kd)) (hfx.keep kd (fun _ _ => by simp)) (H.sub _ hP x hmx)) rfl ?_
  rintro u8 w8 ⟨k8, f8⟩
  obtain ⟨cs, rfl, hcs, hone⟩ := f8.cells
  obtain ⟨x0, x1, x2, x3, x4, rfl⟩ := A7 hcs
  have hS8 := k8.cell hSd (by simp)
  have b8 := bd'.ext k8
  have z8 := k8.size
  refine AO ⟨_, fun _ h => h, hS8, ?_⟩
  refine D_A rfl ?_ ?_
  ·refine AF rfl (b8.blk.cell (o := 4) rfl) ?_
   refine AO ⟨_, fun _ h => h, hS8, ?_⟩
   refine D_E rfl ?_
   refine Ab (out := [x0, x1, x2, x3, x4]) rfl (by omega) (by rw [CV]; rfl) (fun w9 n9 => ?_)
   have hS9 := n9.keep.cell hS8 (by simp)
   have b9 := b8.ext n9.keep
   refine AO ⟨_, fun _ h => h, hS9, ?_⟩
   refine D_E rfl ?_
   have o9 := n9.own (n := 1) (size := 5) rfl (by unfold maxLen; omega) (Nat.le_refl _)
   have z9 := n9.size
   have hlen : ((args.take k).map (chF val)).length = k := by simp; omega
   refine BD (ok := As) (v := v) (sv := .slice (some ⟨w8.heap.size, 0, none⟩) 1 1) rfl rfl b9.own (Az o9 fun _ _ => trivial) (by omega) rfl rfl hone (by omega) (by omega) (by omega) (fun v10 w10 a10 => ?_)
   have z10 := a10.keep.size
   have hS10 := a10.keep.cell hS9 (fun hx => by have := Aw b9.own (Option.mem_toList.1 hx); omega)
   refine AO ⟨_, fun _ h => h, hS10, ?_⟩
   ((apply D_R rfl rfl; (intro W hW; refine AD rfl ?_; exact AO ⟨rfl, rfl, rfl⟩)))
   refine D_E rfl ?_
   have hm10 : c5 ∉ v.ownBlock.toList := fun hx => b9.ne _ (Option.mem_toList.1 hx) rfl
   refine Aa (v := v10) rfl rfl (own_oneC a10.own) (b9.blk.keep a10.keep hm10) (by simp) (fun w11 p11 => ?_)
   refine AO ⟨_, fun _ h => h, p11.keep.cell hS10 (by simp; omega), ?_⟩
   refine Ah ?_
   obtain ⟨hB, kB⟩ := b8.push (B := wd.heap.size) ⟨by omega, by omega⟩ hgB (by omega) (by omega) f8 rfl n9 a10 p11 rfl
   have kD : Ext w w11 := ((kW.trans kd).trans k8).keep kB (fun y hy => by
    rcases List.mem_cons.1 hy with rfl | hy
    ·omega
    ·have := (Aw b8.own (Option.mem_toList.1 hy)).1; omega)
   repeat refine nx rfl ?_
   (refine AA (Av rfl rfl (by first | exact AV (by omega) (by omega) | exact AY (by omega) (by omega) | exact AW (by omega) (by omega)) ?_) <;> refine AG rfl ?_)
   repeat refine nx rfl ?_
   refine ⟨(k + 1, v10, L ++ [[x0, x1, x2, x3, x4]]), ⟨rfl, ⟨rfl, rfl, rfl, rfl, rfl, ?_, trivial⟩, ⟨by simp only; omega, kD, ?_, (bz.keep (kd.trans k8) (by simp)).keep kB ?_, by have := kB.size; omega⟩⟩, by simp only; omega⟩
   ·show Value.int .i64 ((k : Int) + 1) = _
    rw [Int.natCast_add]; rfl
   ·simp only
    rw [List.take_add_one, hx, List.map_append]
    exact hB
   ·intro hy
    rcases List.mem_cons.1 hy with e | hy
    ·omega
    ·have := (Aw bW.own (Option.mem_toList.1 hy)).1
     omega
  refine D_E rfl ?_
  refine Ab (out := [x0, x1, x2, x3, x4]) rfl (by omega) (by rw [CV]; rfl) (fun w9 n9 => ?_)
  have hS9 := n9.keep.cell hS8 (by simp)
  have b9 := b8.ext n9.keep
  refine AO ⟨_, fun _ h => h, hS9, ?_⟩
  refine D_E rfl ?_
  refine AF rfl (b9.blk.cell (o := 4) rfl) ?_
  refine AO ⟨_, fun _ h => h, hS9, ?_⟩
  refine D_E rfl ?_
  have o9 := n9.own (n := 1) (size := 5) rfl (by unfold maxLen; omega) (Nat.le_refl _)
  have z9 := n9.size
  have hlen : ((args.take k).map (chF val)).length = k := by simp; omega
  refine BD (ok := As) (v := v) (sv := .slice (some ⟨w8.heap.size, 0, none⟩) 1 1) rfl rfl b9.own (Az o9 fun _ _ => trivial) (by omega) rfl rfl hone (by omega) (by omega) (by omega) (fun v10 w10 a10 => ?_)
  have z10 := a10.keep.size
  have hS10 := a10.keep.cell hS9 (fun hx => by have := Aw b9.own (Option.mem_toList.1 hx); omega)
  refine AO ⟨_, fun _ h => h, hS10, ?_⟩
  ((apply D_R rfl rfl; (intro W hW; refine AD rfl ?_; exact AO ⟨rfl, rfl, rfl⟩)))
  refine D_E rfl ?_
  have hm10 : c5 ∉ v.ownBlock.toList := fun hx => b9.ne _ (Option.mem_toList.1 hx) rfl
  refine Aa (v := v10) rfl rfl (own_oneC a10.own) (b9.blk.keep a10.keep hm10) (by simp) (fun w11 p11 => ?_)
  refine AO ⟨_, fun _ h => h, p11.keep.cell hS10 (by simp; omega), ?_⟩
  refine Ah ?_
  obtain ⟨hB, kB⟩ := b8.push (B := wd.heap.size) ⟨by omega, by omega⟩ hgB (by omega) (by omega) f8 rfl n9 a10 p11 rfl
  have kD : Ext w w11 := ((kW.trans kd).trans k8).keep kB (fun y hy => by
   rcases List.mem_cons.1 hy with rfl | hy
   ·omega
   ·have := (Aw b8.own (Option.mem_toList.1 hy)).1; omega)
  repeat refine nx rfl ?_
  (refine AA (Av rfl rfl (by first | exact AV (by omega) (by omega) | exact AY (by omega) (by omega) | exact AW (by omega) (by omega)) ?_) <;> refine AG rfl ?_)
  repeat refine nx rfl ?_
  refine ⟨(k + 1, v10, L ++ [[x0, x1, x2, x3, x4]]), ⟨rfl, ⟨rfl, rfl, rfl, rfl, rfl, ?_, trivial⟩, ⟨by simp only; omega, kD, ?_, (bz.keep (kd.trans k8) (by simp)).keep kB ?_, by have := kB.size; omega⟩⟩, by simp only; omega⟩
  ·show Value.int .i64 ((k : Int) + 1) = _
   rw [Int.natCast_add]; rfl
  ·simp only
   rw [List.take_add_one, hx, List.map_append]
   exact hB
  ·intro hy
   rcases List.mem_cons.1 hy with e | hy
   ·omega
   ·have := (Aw bW.own (Option.mem_toList.1 hy)).1
    omega
 ·refine AA (Aj rfl rfl (by omega) ?_)
  repeat first | refine nx rfl ?_ | refine nf rfl ?_
  rw [List.take_of_length_le (by omega)] at bW
  have bf := bW.blk
  refine AA ?_
  refine Ac rfl bf rfl ?_
  refine AU (cs := [.int .i64 op, An nm, .int .i64 (if Cm op then val ⟨op, nm, vl, bd, args⟩ else vl), .int .i64 bd, v]) rfl rfl rfl ?_ bz (by simp [zero5]) (fun w5 p5 => ?_)
  ·intro u hu
   simp at hu
   rcases hu with rfl | rfl | rfl | rfl | rfl <;> first | rfl | exact own_oneC bW.own
  repeat refine nx rfl ?_
  exact A2 rfl rfl rfl p5.blk.cells ⟨kW.keep p5.keep (by simp), ((bW.fin.keep p5.keep (fun x hx hm => by have := hx.1; simp at hm; omega)).mono fun x hx => by have := hx.1; omega)⟩
end Go.Proofs.YtkhhjdjmhbdjfaaGreatDoor
namespace Go.Proofs.YtkhhjdjmhbdjfaaGreatDoor
open Go.RowKit
set_option linter.unusedVariables false
variable {mk : Prop} [MK mk]
theorem pnF_parts (f : Fml) : pnF f = pnL f.args ++ (if Cm f.op then [f] else []) := by obtain ⟨op, nm, v, b, args⟩ := f; rw [pnF]; rfl
theorem pnL_app : ∀ l m : List Fml, pnL (l ++ m) = pnL l ++ pnL m
 | [], m => by simp [pnL]
 | f :: l, m => by simp [pnL, pnL_app l m]
theorem pnL_take {l : List Fml} {k : Nat} {x : Fml} (h : l[k]? = some x) : pnL (l.take (k + 1)) = pnL (l.take k) ++ pnF x := by
 rw [List.take_add_one, h, Option.toList_some, pnL_app]; simp [pnL]
theorem pnL_split {l : List Fml} {k : Nat} {x : Fml} (h : l[k]? = some x) : pnL l = pnL (l.take k) ++ (pnF x ++ pnL (l.drop (k + 1))) := by
 have hlt := (List.getElem?_eq_some_iff.1 h).1
 have hfa : l = l.take k ++ x :: l.drop (k + 1) := by
  have := List.take_append_drop k l
  rw [List.drop_eq_getElem_cons hlt, (List.getElem?_eq_some_iff.1 h).2] at this
  exact this.symm
 conv => lhs; rw [hfa, pnL_app]
 simp [pnL]
def KZ (X : List Nat) (B : Nat) (Z : List Nat) (w w' : World) : Prop := ∃ Y, Keep Y w w' ∧ ∀ y ∈ Y, y ∈ X ∨ (B ≤ y ∧ y ∉ Z)
theorem KZ.of {X : List Nat} {B : Nat} {Z : List Nat} {w w' : World} (k : Ext w w') : KZ X B Z w w' := ⟨[], k, fun _ h => by cases h⟩
theorem KZ.trans {X : List Nat} {B : Nat} {Z : List Nat} {a b c : World} (h : KZ X B Z a b) (k : KZ X B Z b c) : KZ X B Z a c := by
 obtain ⟨Y, h1, h2⟩ := h
 obtain ⟨Y', k1, k2⟩ := k
 refine ⟨Y ++ Y', (h1.mono fun x hx => List.mem_append_left _ hx).trans k1 fun x hx _ => List.mem_append_right _ hx, fun y hy => ?_⟩
 rcases List.mem_append.1 hy with h | h
 ·exact h2 y h
 ·exact k2 y h
theorem KZ.blk {X : List Nat} {B : Nat} {Z : List Nat} {w w' : World} {c : Nat} {T : TypeId} {L : List Value} (k : KZ X B Z w w') (h : Blk w c T L) (h1 : c ∉ X) (h2 : c ∈ Z) : Blk w' c T L := by
 obtain ⟨Y, k1, k2⟩ := k
 exact h.keep k1 fun hy => (k2 c hy).elim h1 fun e => e.2 h2
theorem KZ.pf {X : List Nat} {B : Nat} {Z : List Nat} {w w' : World} {b o : Nat} {f : Fml} (k : KZ X B Z w w') (h : PF (fun b => b ∉ X ∧ b < B) w b o f) : PF (fun b => b ∉ X ∧ b < B) w' b o f := by
 obtain ⟨Y, k1, k2⟩ := k
 exact h.keep k1 fun b hb hy => (k2 b hy).elim hb.1 fun e => by have := hb.2; omega
structure PnR (yv : Value) (X : List Nat) (B : Nat) (P : List Fml) (A : Nat → Nat → Fml → Prop) (J : List Nat → List Fml → World → Prop) : Prop where
 fn : ∃ y, yv = .func (.yield y) #[] #[]
 ext : ∀ {Z Z' : List Nat} {L : List Fml} {W W' : World}, J Z L W → Ext W W' → (∀ z ∈ Z', z ∈ Z ∨ (W.heap.size ≤ z ∧ z < W'.heap.size)) → J Z' L W'
 step : ∀ {Z : List Nat} {L : List Fml} {W : World} {b o : Nat} {f : Fml}, J Z L W → PF (fun b => b ∉ X ∧ b < B) W b o f → L ++ [f] <+: P → A b o f → YldP Tryz.prog yv [.pointer (some ⟨b, o, none⟩)] W (fun v W' => v = .bool true ∧ KZ X B Z W W' ∧ J Z (L ++ [f]) W') fun _ _ => False
abbrev leaveV (c1 c2 : Nat) : Value := .func (.func 57) #[] #[pt c1, pt c2]
theorem leave_ok {yv : Value} {X : List Nat} {B : Nat} {P : List Fml} {J : List Nat → List Fml → World → Prop} {b0 o0 : Nat} {F0 : Fml} (H : PnR yv X B P (fun b o f => f = F0 → b = b0 ∧ o = o0) J) (c1 c2 : Nat) (h1 : c1 ∉ X) (h2 : c2 ∉ X) : ∀ (n : Nat) (w : World) (b o : Nat) (f : Fml) (L : List Fml), dpF f ≤ n → szF f ≤ szF F0 → (f = F0 → b = b0 ∧ o = o0) → PF (fun b => b ∉ X ∧ b < B) w b o f →
  Blk w c2 49 [yv] → Blk w c1 49 [leaveV c1 c2] → J [c1, c2] L w → L ++ pnF f <+: P →
  Fn Tryz.prog 57 [.pointer (some ⟨b, o, none⟩), pt c1, pt c2] w fun v w' => v = .bool true ∧ KZ X B [c1, c2] w w' ∧ J [c1, c2] (L ++ pnF f) w' := by
 intro n
 induction n with
 | zero => intro w b o f L hn; rw [Bd] at hn; omega
 | succ n ih =>
 intro w b o f L hn hS hA hf b2 b1 hJ hP
 rw [Bd] at hn
 obtain ⟨y, rfl⟩ := H.fn
 refine AR Tryz.func57 rfl Tryz.ntmps57 (Nat.le_of_ble_eq_true rfl) (by kernel_rfl) ?_
 repeat refine nx rfl ?_
 refine AA (AC (AB rfl ?_))
 repeat refine nx rfl ?_
 obtain ⟨a0, cc0, hal, hargs0, _⟩ := hf.arg
 (refine AA (AP rfl (AH rfl (AD rfl (AF rfl (by assumption) ?_)))) <;> refine AZ rfl (AG rfl ?_))
 repeat refine nx rfl ?_
 refine A3 (α := Nat) (fun k => [(0, .pointer (some ⟨b, o, none⟩)), (1, pt c1), (2, pt c2), (10, .int .i64 (f.args.length : Int)), (11, .int .i64 (k : Int))]) (fun k W => k ≤ f.args.length ∧ KZ X B [c1, c2] w W ∧ J [c1, c2] (L ++ pnL (f.args.take k)) W ∧ PF (fun b => b ∉ X ∧ b < B) W b o f ∧ Blk W c2 49 [.func (.yield y) #[] #[]] ∧ Blk W c1 49 [leaveV c1 c2]) (fun k => f.args.length - k) 0 ⟨rfl, rfl, rfl, rfl, rfl, trivial⟩ ⟨by omega, KZ.of (Ext.refl _), by simpa [pnL] using hJ, hf, b2, b1⟩ ?_
 rintro k W fr ⟨hk, kW, hJW, hfW, b2W, b1W⟩
 repeat refine nx rfl ?_
 by_cases hlt : k < f.args.length
 ·refine AA (At rfl rfl (by omega) ?_)
  repeat refine nx rfl ?_
  refine AA (AG rfl (AC (AG rfl ?_)))
  repeat refine nx rfl ?_
  obtain ⟨x, hx⟩ : ∃ x, f.args[k]? = some x := ⟨_, List.getElem?_eq_getElem hlt⟩
  obtain ⟨aa, cc, _, hargs, hel⟩ := hfW.arg
  obtain ⟨b', o', rfl, hfx⟩ := hel k x hx
  have hpe := pnL_split hx
  have hPx : (L ++ pnL (f.args.take k)) ++ pnF x <+: P := by
   refine List.IsPrefix.trans ?_ hP
   rw [pnF_parts f, hpe, List.append_assoc, List.append_assoc, List.append_assoc, List.prefix_append_right_inj, List.prefix_append_right_inj]
   exact List.prefix_append _ _
  have hdx := Bp (List.mem_of_getElem? hx)
  have hsx := BY (List.mem_of_getElem? hx)
  have hsf := BW f
  refine Ad (.read 0 (.read 1 (.read 2 (.read 3 (.read 4 (.read 5 (.read 6 (.alt 7 (.read 8 .done) .stop)))))))) Ax (by kernel_rfl) (fun wd kd ed => ⟨KZ X B [c1, c2] wd, ?_, ?_⟩)
  ·exact KZ.of (Ext.refl _)
  have ca : ∀ V, KZ X B [c1, c2] wd V → V.cell? ⟨c1, 0, none⟩ = some (leaveV c1 c2) := fun V e => (e.blk (b1W.keep kd (by simp)) h1 (by simp)).cell rfl
  have cb : ∀ V, KZ X B [c1, c2] wd V → V.cell? ⟨b, o + 4, none⟩ = some (.slice (some ⟨b', o', none⟩) f.args.length cc) := fun V e => by
   obtain ⟨Y, e1, e2⟩ := e
   exact e1.cell (kd.cell hargs (by simp)) fun hy => (e2 b hy).elim hfW.1.1 fun e => by have := hfW.1.2; omega
  refine D_R rfl rfl (fun W hW => AF rfl (ca W hW) Z3) (D_R rfl rfl (fun W hW => AP rfl Z3) (D_R rfl rfl (fun W hW => AH rfl Z3) (D_R rfl rfl (fun W hW => AD rfl Z3) (D_R rfl rfl (fun W hW => AF rfl (cb W hW) Z3) (D_R rfl rfl (fun W hW => AG rfl Z3) (D_R rfl rfl (fun W hW => Au rfl rfl rfl (by omega) Z3) ?_))))))
  refine D_E rfl ?_
  refine BO (v1 := []) (v2 := [pt c1, pt c2]) (vs := [.pointer (some ⟨b', o' + k * 5, none⟩)]) rfl (ih wd b' (o' + k * 5) x _ (by omega) (by omega) (fun e => by subst e; omega) (hfx.keep kd (fun _ _ => by simp)) (b2W.keep kd (by simp)) (b1W.keep kd (by simp)) (H.ext hJW kd fun z hz => .inl hz) hPx) rfl ?_
  rintro _ w4 ⟨rfl, k4, hJ4⟩
  refine AO ⟨KZ X B [c1, c2] wd, fun _ e => e, k4, ?_⟩
  have kW4 := (kW.trans (KZ.of kd)).trans k4
  refine D_R rfl rfl (fun W hW => Ak rfl Z3) (Ah ?_)
  repeat first | refine nx rfl ?_ | refine nf rfl ?_
  (refine AA (Av rfl rfl (by first | exact AV (by omega) (by omega) | exact AY (by omega) (by omega) | exact AW (by omega) (by omega)) ?_) <;> refine AG rfl ?_)
  repeat refine nx rfl ?_
  refine ⟨k + 1, ⟨rfl, ⟨rfl, rfl, rfl, rfl, ?_, trivial⟩, ⟨by omega, kW4, ?_, k4.pf (hfW.keep kd (fun _ _ => by simp)), k4.blk (b2W.keep kd (by simp)) h2 (by simp), k4.blk (b1W.keep kd (by simp)) h1 (by simp)⟩⟩, by omega⟩
  ·show Value.int .i64 ((k : Int) + 1) = _
   rw [Int.natCast_add]; rfl
  ·rw [pnL_take hx]; simpa using hJ4
 ·refine AA (Aj rfl rfl (by omega) ?_)
  repeat first | refine nx rfl ?_ | refine nf rfl ?_
  rw [List.take_of_length_le (by omega)] at hJW
  have hop := hfW.opc
  refine AA (AP rfl (AH rfl (AD rfl (AF rfl (by assumption) ?_))))
  refine AQ (remembers_ok W f.op) rfl ?_
  rintro _ W ⟨rfl, rfl⟩
  cases hr : Cm f.op with
  | false =>
   refine Ak rfl (AB rfl (AL rfl (AL rfl ?_)))
   refine AL rfl (AK rfl (AB rfl (AC (AB rfl ?_))))
   repeat refine nx rfl ?_
   refine AI rfl ⟨rfl, kW, ?_⟩
   rw [pnF_parts, hr]; simpa using hJW
  | true =>
   (refine Ak rfl (AB rfl (AE rfl (AF rfl (Blk.cell (by assumption) (by rfl)) ?_))) <;> refine AE rfl (AP rfl ?_))
   have hPf : L ++ pnL f.args ++ [f] <+: P := by rw [pnF_parts, hr, if_pos rfl, ← List.append_assoc] at hP; exact hP
   refine AE rfl ?_
   refine W_yield rfl rfl (H.step hJW hfW hPf hA) ?_
   rintro _ w4 ⟨rfl, k4, hJ4⟩
   refine AJ rfl (AB rfl (AC (AB rfl ?_)))
   repeat refine nx rfl ?_
   refine AI rfl ⟨rfl, kW.trans k4, ?_⟩
   rw [pnF_parts, hr, if_pos rfl, ← List.append_assoc]; exact hJ4
theorem pnIt_ok {yv : Value} {X : List Nat} {J : List Nat → List Fml → World → Prop} {Z : List Nat} (w : World) (cf b o : Nat) (f : Fml) (H : PnR yv X w.heap.size (pnF f) (fun b' o' x => x = f → b' = b ∧ o' = o) J) (hcf : Blk w cf 50 [.pointer (some ⟨b, o, none⟩)]) (hf : PF (fun b => b ∉ X ∧ b < w.heap.size) w b o f) (hJ : J Z [] w) (hX : ∀ x ∈ X, x < w.heap.size) :
  Fn Tryz.prog 56 [yv, pt cf] w fun _ w' => Keep X w w' ∧ ∃ Z, J Z (pnF f) w' := by
 have hX' : ∀ {c : Nat}, w.heap.size ≤ c → c ∉ X := fun h hx => by have := hX _ hx; omega
 obtain ⟨y, rfl⟩ := H.fn
 refine AR Tryz.func56 rfl Tryz.ntmps56 (Nat.le_of_ble_eq_true rfl) (by kernel_rfl) ?_
 repeat refine nx rfl ?_
 (refine AA ?_; refine A5 (L := [.func (.yield y) #[] #[]]) rfl (fun w1 n1 => ?_))
 repeat refine nx rfl ?_
 (refine AA ?_; refine Ar (fun w2 n2 => ?_))
 repeat refine nx rfl ?_
 refine AA (Ae rfl rfl ?_)
 refine Aa (v := leaveV w1.heap.size w.heap.size) rfl rfl rfl n2.blk (by simp) (fun w3 p3 => ?_)
 repeat refine nx rfl ?_
 have z1 := n1.size
 have z2 := n2.size
 have z3 := p3.size
 have k23 : Ext w1 w3 := n2.keep.keep p3.keep (by simp)
 have k3 : Ext w w3 := n1.keep.trans k23
 have b2 : Blk w3 w.heap.size 49 [.func (.yield y) #[] #[]] := n1.blk.keep k23 (by simp)
 have b1 : Blk w3 w1.heap.size 49 [leaveV w1.heap.size w.heap.size] := p3.blk
 have hcf3 := (hcf.keep k3 (by simp)).cell (o := 0) rfl
 (refine AA (AF rfl (Blk.cell (by assumption) (by rfl)) ?_) <;> refine AF rfl (by assumption) ?_)
 refine BO (v1 := []) (v2 := [pt w1.heap.size, pt w.heap.size]) (vs := [.pointer (some ⟨b, o, none⟩)]) rfl (leave_ok H w1.heap.size w.heap.size (hX' (by omega)) (hX' (Nat.le_refl _)) (dpF f) w3 b o f [] (Nat.le_refl _) (Nat.le_refl _) (fun _ => ⟨rfl, rfl⟩) (hf.keep k3 (fun _ _ => by simp)) b2 b1 (H.ext hJ k3 (fun z hz => .inr (by simp at hz; omega))) (List.prefix_refl _)) rfl ?_
 rintro _ w4 ⟨rfl, k4, hJ4⟩
 repeat refine nx rfl ?_
 obtain ⟨Y, k5, k6⟩ := k4
 exact Cu rfl ⟨(k3.any : Keep X w w3).trans k5 (fun y hy hlt => (k6 y hy).elim id fun e => by omega), _, by simpa using hJ4⟩
theorem pastNodes_ok (w : World) (b o : Nat) : Fn Tryz.prog 24 [.pointer (some ⟨b, o, none⟩)] w fun v w' => v = .func (.func 56) #[] #[pt w.heap.size] ∧ New w w' 50 [.pointer (some ⟨b, o, none⟩)] := by
 refine AR Tryz.func24 rfl Tryz.ntmps24 (Nat.le_of_ble_eq_true rfl) (by kernel_rfl) ?_
 repeat refine nx rfl ?_
 (refine AA ?_; refine A5 (L := [.pointer (some ⟨b, o, none⟩)]) rfl (fun w1 n1 => ?_))
 refine AC (Be ?_)
 repeat refine nx rfl ?_
 refine AA (Ae rfl rfl (AC (Bq rfl ?_)))
 repeat refine nx rfl ?_
 exact AI rfl ⟨rfl, n1⟩
end Go.Proofs.YtkhhjdjmhbdjfaaGreatDoor
namespace Go.Proofs.YtkhhjdjmhbdjfaaGreatDoor
open Go.RowKit
set_option linter.unusedVariables false
variable {mk : Prop} [MK mk]
theorem preF_sz : ∀ (f : Fml) (j : Bool) (x : Nd), x ∈ Ct j f → szF x.1 ≤ szF f
 | .mk op nm v b args, j, x, h => by
  simp only [Ct, List.mem_cons] at h
  rcases h with rfl | h
  ·exact Nat.le_refl _
  ·have := preL_sz args _ x h
   simp only [szF]; omega
where preL_sz : ∀ (l : List Fml) (j : Bool) (x : Nd), x ∈ CW j l → szF x.1 ≤ szL l
 | [], _, _, h => by cases h
 | f :: l, j, x, h => by
  simp only [CW, List.mem_append] at h
  simp only [szL]
  rcases h with h | h
  ·have := preF_sz f j x h; omega
  ·have := preL_sz l j x h; omega
theorem asnQ_mono {k k' : Fr → DS → World → Prop} (h : ∀ f ds w, k f ds w → k' f ds w) (e : Exit) (f : Fr) (ds : DS) (w : World) (hk : asnQ k e f ds w) : asnQ k' e f ds w := by
 cases e <;> delta asnQ at hk ⊢
 ·exact h _ _ _ hk
 all_goals exact hk
def goodQ (c2 : Nat) (W : World) : Bool → CX
 | true => fun e _ _ W' => e = .normal ∧ Ext W W'
 | false => fun e _ _ W' => e = .ret ∧ Keep [c2] W W' ∧ Blk W' c2 4 [.bool false]
theorem C_allNodes {n : Nat} {Q : CX} {g : Operand} {ps : List Nat} {asn body : Code} {f : Fr} {ds : DS} {w : World} (good : Nd → Bool) {c2 cf b o : Nat} {F : Fml}
  (hv : ev f g = .func (.func 138) #[] #[pt cf]) (hps : (ps.all (fun t => Nat.blt t n) && (Bz n true asn && Bz n true body)) = true) (hpl : ps.length = 2)
  (h2 : Blk w c2 4 [.bool false]) (hcf : Blk w cf 50 [.pointer (some ⟨b, o, none⟩)]) (hF : PF (fun b => b ≠ c2) w b o F) (hG : GF w) (hN : 3 ≤ c2) (hd : dpF F ≤ 5000)
  (hbody : ∀ (l b' o' : Nat) (x : Fml) (i : Bool) (W : World), szF x ≤ szF F → WC Tryz.prog ⟨n, some l⟩ asn (asnQ fun f' ds' w' => w' = W ∧ ∀ W2, Ext w W2 → PF (fun b => b ≠ c2) W2 b' o' x → Blk W2 c2 4 [.bool false] → WC Tryz.prog ⟨n, some l⟩ body (goodQ c2 W2 (good (x, i))) f' ds' W2) (ovz (ps.zip [.pointer (some ⟨b', o', none⟩), .bool i]) f) [] W)
  (hend : ∀ W, Keep [c2] w W → Blk W c2 4 [.bool false] → W.heap[w.heap.size]? = some (.deferred (some [])) → Q (if (Ct false F).all good then .normal else .ret) f ({ target := .collected w.heap.size, args := #[] } :: ds) W) :
  WC Tryz.prog ⟨n, none⟩ (.rangeFunc g ps.toArray asn body) Q f ds w := by
 have hlt2 := h2.lt
 refine C_range [] [pt cf] hv hps fun Rdy Bsy Don w1 HL k1 s1 m1 r1 => ?_
 replace h2 := h2.keep k1 (by simp)
 replace hcf := hcf.keep k1 (by simp)
 have hF1 := (hF.lt.keep k1 (fun _ _ => by simp)).mono (ok' := fun b => b ∉ [c2, w.heap.size + 1] ∧ b < w1.heap.size) (fun x hx => by have := hx.2; simp; omega)
 obtain ⟨J, hJ⟩ : ∃ J : List Nd → World → Prop, ∀ L W, J L W ↔ (L.all good = true ∧ Ext w W ∧ Blk W c2 4 [.bool false] ∧ Rdy W ∧ W.heap[w.heap.size]? = some (.deferred (some [])) ∧ w1.heap.size ≤ W.heap.size) := ⟨_, fun _ _ => Iff.rfl⟩
 obtain ⟨D, hD⟩ : ∃ D : List Nd → World → Prop, ∀ L W, D L W ↔ (L.all good = false ∧ Keep [c2] w W ∧ Blk W c2 4 [.bool false] ∧ Don .ret W ∧ W.heap[w.heap.size]? = some (.deferred (some [])) ∧ w1.heap.size ≤ W.heap.size) := ⟨_, fun _ _ => Iff.rfl⟩
 have H : NodesR (.func (.yield (w.heap.size + 1)) #[] #[]) [c2, w.heap.size + 1] w1.heap.size (Ct false F) J D := by
  refine ⟨⟨_, rfl⟩, fun x hx => by simp at hx; omega, fun hj k hY => ?_, fun {L W b' o' x i} hj hp hP => ?_⟩
  ·obtain ⟨j0, j1, j2, j3, j4, j5⟩ := (hJ _ _).1 hj
   exact (hJ _ _).2 ⟨j0, j1.keep k (fun x hx => by have := hY x hx; omega), j2.keep k (fun h => by have := hY _ h; omega), HL.rdy j3 k (fun h => by have := hY _ h; omega), (k.block _ (by omega) (fun h => by have := hY _ h; omega)).trans j4, Nat.le_trans j5 k.size⟩
  ·obtain ⟨j0, j1, j2, j3, j4, j5⟩ := (hJ _ _).1 hj
   have hsz := preF_sz F false (x, i) (hP.subset (by simp))
   refine YldP.mono (R := fun v W' => Keep [c2, w.heap.size + 1] W W' ∧ ((v = .bool true ∧ J (L ++ [(x, i)]) W') ∨ (v = .bool false ∧ D (L ++ [(x, i)]) W'))) (Y := fun _ _ => False) (HL.round j3 hpl.symm ?_) (fun v W' h => h) (fun _ _ h => h)
   refine C0 _ (asnQ_mono fun f' ds' w' hh => ?_) _ _ _ (hbody (w.heap.size + 1) b' o' x i W hsz)
   obtain ⟨rfl, hh⟩ := hh
   refine ⟨j3, fun W2 q2 s2 y2 => ?_⟩
   have e2 := j1.keep q2 (by simp)
   have h2 := j2.keep q2 (by simp; omega)
   refine C0 _ (fun e f'' ds'' W3 hq => ?_) _ _ _ (hh W2 e2 ((hp.keep q2 (fun b hb => by have := hb.1; simp at this ⊢; omega)).mono fun b hb => by have := hb.1; simp at this; omega) h2)
   have q2' : Keep [c2, w.heap.size + 1] w' W2 := q2.mono (fun x hx => by simp at hx; simp [hx])
   have j42 := (q2.block _ (by omega) (by simp)).trans j4
   have z2 := q2.size
   cases hg : good (x, i) with
   | true =>
    rw [hg] at hq
    obtain ⟨rfl, q3⟩ := hq
    have z3 := q3.size
    have y3 := HL.bsy y2 q3 (by simp)
    refine Q_rnd y3 fun W4 q4 s4 y4 => ⟨(q2'.ext q3).trans q4 (fun x hx _ => by simp at hx; simp [hx]), .inl ⟨rfl, (hJ _ _).2 ⟨by simp [j0, hg], (e2.trans q3).keep q4 (by simp), (h2.keep q3 (by simp)).keep q4 (by simp; omega), y4, (q4.block _ (by omega) (by simp)).trans ((q3.block _ (by omega) (by simp)).trans j42), by omega⟩⟩⟩
   | false =>
    rw [hg] at hq
    obtain ⟨rfl, q3, b3⟩ := hq
    have z3 := q3.size
    have y3 := HL.bsy y2 q3 (by simp; omega)
    refine Q_rnd_ret y3 fun W4 q4 s4 y4 => ⟨(q2'.trans q3 (fun x hx _ => by simp at hx; simp [hx])).trans q4 (fun x hx _ => by simp at hx; simp [hx]), .inr ⟨rfl, (hD _ _).2 ⟨by simp [hg], (e2.any.trans q3 (fun _ h _ => h)).trans q4 (fun x hx h => by simp at hx; omega), b3.keep q4 (by simp; omega), y4, (q4.block _ (by omega) (by simp)).trans ((q3.block _ (by omega) (by simp; omega)).trans j42), by omega⟩⟩⟩
 refine Fn.mono (nodesIt_ok w1 cf b o F H hcf hF1 (hG.ext k1) (by omega) hd ((hJ _ _).2 ⟨rfl, k1, h2, r1, m1, Nat.le_refl _⟩) (fun x hx => by simp at hx; omega)) ?_
 rintro v w8 ⟨_, hj | ⟨M, hM, _, hd⟩⟩
 ·obtain ⟨j0, j1, j2, j3, j4, j5⟩ := (hJ _ _).1 hj
  refine .inl ⟨j3, fun w9 k9 s9 => ?_⟩
  have := hend w9 ((j1.any.trans k9 (fun x hx h => by simp at hx; omega)) : Keep [c2] w w9) (j2.keep k9 (by simp; omega)) ((k9.block _ (by omega) (by simp)).trans j4)
  rw [j0] at this
  exact this
 ·obtain ⟨j0, j1, j2, j3, j4, j5⟩ := (hD _ _).1 hd
  refine .inr ⟨.ret, j3, fun w9 k9 s9 => ?_⟩
  have := hend w9 ((j1.trans k9 (fun x hx h => by simp at hx; omega)) : Keep [c2] w w9) (j2.keep k9 (by simp; omega)) ((k9.block _ (by omega) (by simp)).trans j4)
  rw [show (Ct false F).all good = false by
   rw [← Bool.not_eq_true, List.all_eq_true]
   intro h
   rw [← Bool.not_eq_true, List.all_eq_true] at j0
   exact j0 fun x hx => h x (hM.subset hx)] at this
  unfold behind
  exact this
end Go.Proofs.YtkhhjdjmhbdjfaaGreatDoor
namespace Go.Proofs.YtkhhjdjmhbdjfaaGreatDoor
open Go.RowKit
set_option linter.unusedVariables false
variable {mk : Prop} [MK mk]
theorem C_eachPn {n : Nat} {Q : CX} {g : Operand} {ps : List Nat} {asn body : Code} {f : Fr} {ds : DS} {w : World} {X0 : List Nat} (I : List Nat → List Fml → World → Prop) {cf b o : Nat} {F : Fml}
  (hv : ev f g = .func (.func 56) #[] #[pt cf]) (hps : (ps.all (fun t => Nat.blt t n) && (Bz n true asn && Bz n true body)) = true) (hpl : ps.length = 1)
  (hcf : Blk w cf 50 [.pointer (some ⟨b, o, none⟩)]) (hF : PF (fun b => b ∉ X0) w b o F) (hX : ∀ x ∈ X0, x < w.heap.size) (hI0 : I [] [] w)
  (hext : ∀ (Z Z' : List Nat) (L : List Fml) (W W' : World) (Y : List Nat), I Z L W → Keep Y W W' → (∀ y ∈ Y, y ∈ Z) → (∀ z ∈ Z', z ∈ Z ∨ (W.heap.size ≤ z ∧ z < W'.heap.size)) → I Z' L W')
  (hbody : ∀ (l b' o' : Nat) (x : Fml) (Z : List Nat) (L : List Fml) (W : World), L ++ [x] <+: pnF F → (x = F → b' = b ∧ o' = o) → WC Tryz.prog ⟨n, some l⟩ asn (asnQ fun f' ds' w' => w' = W ∧ ∀ W2, Keep X0 w W2 → I Z L W2 → PF (fun b => b ∉ X0) W2 b' o' x → WC Tryz.prog ⟨n, some l⟩ body (fun e _ _ W' => e = .normal ∧ KZ X0 w.heap.size Z W2 W' ∧ I Z (L ++ [x]) W') f' ds' W2) (ovz (ps.zip [.pointer (some ⟨b', o', none⟩)]) f) [] W)
  (hend : ∀ (W : World) (Z : List Nat), Keep X0 w W → w.heap.size ∈ Z → w.heap.size < W.heap.size → I Z (pnF F) W → W.heap[w.heap.size]? = some (.deferred (some [])) → Q .normal f ({ target := .collected w.heap.size, args := #[] } :: ds) W) :
  WC Tryz.prog ⟨n, none⟩ (.rangeFunc g ps.toArray asn body) Q f ds w := by
 refine C_range [] [pt cf] hv hps fun Rdy Bsy Don w1 HL k1 s1 m1 r1 => ?_
 replace hcf := hcf.keep k1 (by simp)
 have hF1 := (hF.lt.keep k1 (fun _ _ => by simp)).mono (ok' := fun b => b ∉ (w.heap.size + 1) :: X0 ∧ b < w1.heap.size) (fun x hx => ⟨fun h => by rcases List.mem_cons.1 h with e | e; (have := hx.2; omega); exact hx.1 e, by have := hx.2; omega⟩)
 obtain ⟨J, hJ⟩ : ∃ J : List Nat → List Fml → World → Prop, ∀ Z L W, J Z L W ↔ (I (w.heap.size :: (w.heap.size + 1) :: Z) L W ∧ Keep X0 w W ∧ Rdy W ∧ W.heap[w.heap.size]? = some (.deferred (some [])) ∧ w1.heap.size ≤ W.heap.size) := ⟨_, fun _ _ _ => Iff.rfl⟩
 have H : PnR (.func (.yield (w.heap.size + 1)) #[] #[]) ((w.heap.size + 1) :: X0) w1.heap.size (pnF F) (fun b' o' x => x = F → b' = b ∧ o' = o) J := by
  refine ⟨⟨_, rfl⟩, fun {Z Z' L W W'} hj k hZ => ?_, fun {Z L W b' o' x} hj hp hP hA => ?_⟩
  ·obtain ⟨j1, j2, j3, j4, j5⟩ := (hJ _ _ _).1 hj
   refine (hJ _ _ _).2 ⟨hext _ _ _ _ _ [] j1 k (fun y hy => by cases hy) (fun z hz => ?_), j2.ext k, HL.rdy j3 k (by simp), (k.block _ (by omega) (by simp)).trans j4, Nat.le_trans j5 k.size⟩
   rcases List.mem_cons.1 hz with rfl | hz
   ·exact .inl (by simp)
   rcases List.mem_cons.1 hz with rfl | hz
   ·exact .inl (by simp)
   ·exact (hZ z hz).imp (fun h => by simp [h]) id
  ·obtain ⟨j1, j2, j3, j4, j5⟩ := (hJ _ _ _).1 hj
   refine HL.round j3 hpl.symm ?_
   refine C0 _ (asnQ_mono fun f' ds' w' hh => ?_) _ _ _ (hbody (w.heap.size + 1) b' o' x (w.heap.size :: (w.heap.size + 1) :: Z) L W hP hA)
   obtain ⟨rfl, hh⟩ := hh
   refine ⟨j3, fun W2 q2 s2 y2 => ?_⟩
   have i2 := hext _ _ _ _ _ [w.heap.size + 1] j1 q2 (fun y hy => by simp at hy; simp [hy]) (fun z hz => .inl hz)
   have e2 : Keep X0 w W2 := j2.trans q2 (fun y hy hlt => by simp at hy; omega)
   have z2 := q2.size
   refine C0 _ (fun e f'' ds'' W3 hq => ?_) _ _ _ (hh W2 e2 i2 ((hp.keep q2 (fun b hb => by have := hb.1; simp at this ⊢; exact this.1)).mono fun b hb => by have := hb.1; simp at this; exact this.2))
   obtain ⟨rfl, ⟨Y, q3, hY⟩, i3⟩ := hq
   have hlY : w.heap.size + 1 ∉ Y := fun hy => (hY _ hy).elim (fun h => by have := hX _ h; omega) fun h => h.2 (by simp)
   have hmY : w.heap.size ∉ Y := fun hy => (hY _ hy).elim (fun h => by have := hX _ h; omega) fun h => h.2 (by simp)
   have z3 := q3.size
   refine Q_rnd (HL.bsy y2 q3 hlY) fun W4 q4 s4 y4 => ⟨rfl, ⟨(w.heap.size + 1) :: Y, ?_, fun y hy => ?_⟩, (hJ _ _ _).2 ⟨hext _ _ _ _ _ [w.heap.size + 1] i3 q4 (fun y hy => by simp at hy; simp [hy]) (fun z hz => .inl hz), ?_, y4, (q4.block _ (by omega) (by simp)).trans ((q3.block _ (by omega) hmY).trans ((q2.block _ (by omega) (by simp)).trans j4)), by omega⟩⟩
   ·exact ((q2.mono (fun x hx => by simp at hx; simp [hx])).trans q3 (fun x hx _ => List.mem_cons_of_mem _ hx)).trans q4 (fun x hx _ => by simp at hx; simp [hx])
   ·rcases List.mem_cons.1 hy with rfl | hy
    ·exact .inl (by simp)
    ·rcases hY y hy with h | ⟨h1, h2⟩
     ·exact .inl (List.mem_cons_of_mem _ h)
     ·simp at h2
      exact .inr ⟨by omega, h2.2.2⟩
   ·refine (e2.trans q3 (fun y hy hlt => ?_)).trans q4 (fun y hy hlt => by simp at hy; omega)
    exact (hY y hy).elim id fun h => by omega
 refine Fn.mono (pnIt_ok (Z := []) w1 cf b o F H hcf hF1 ((hJ _ _ _).2 ⟨hext _ _ _ _ _ [] hI0 k1 (fun y hy => by cases hy) (fun z hz => .inr (by simp at hz; omega)), k1.any, r1, m1, Nat.le_refl _⟩) (fun x hx => by rcases List.mem_cons.1 hx with rfl | hx; omega; (have := hX x hx; omega))) ?_
 rintro v w8 ⟨_, Z, hj⟩
 obtain ⟨j1, j2, j3, j4, j5⟩ := (hJ _ _ _).1 hj
 refine .inl ⟨j3, fun w9 k9 s9 => ?_⟩
 exact hend w9 _ (j2.trans k9 (fun x hx h => by simp at hx; omega)) (by simp) (by omega) (hext _ _ _ _ _ [w.heap.size + 1] j1 k9 (fun y hy => by simp at hy; simp [hy]) (fun z hz => .inl hz)) ((k9.block _ (by omega) (by simp)).trans j4)
end Go.Proofs.YtkhhjdjmhbdjfaaGreatDoor
namespace Go.Proofs.YtkhhjdjmhbdjfaaGreatDoor
open Go.RowKit
set_option linter.unusedVariables false
variable {mk : Prop} [MK mk]
theorem lib_cmpI (a b : Int) : Lib.compareInt a b = cmpI a b := by
 unfold Lib.compareInt cmpI
 rfl
theorem lib_cmpS : ∀ s t : List UInt8, Lib.compareBytes s t = C1 s t
 | [], [] => rfl
 | [], _ :: _ => rfl
 | _ :: _, [] => rfl
 | a :: s, b :: t => by
  rw [Lib.compareBytes, C1, lib_cmpS s t]
  rfl
theorem cmpInt_ok (a b : Int) (w : World) : Fn Tryz.prog 136 [.int .i64 a, .int .i64 b] w fun v w' => v = .int .i64 (cmpI a b) ∧ w' = w := by
 refine Calls.mono (Tryz.cmp_Compare_int a b w) ?_
 rintro e w' ⟨rfl, rfl⟩
 exact ⟨by rw [lib_cmpI], rfl⟩
theorem cmpStr_ok (a b : List UInt8) (w : World) : Fn Tryz.prog 137 [An a, An b] w fun v w' => v = .int .i64 (C1 a b) ∧ w' = w := by
 refine Calls.mono (Tryz.strings_Compare ⟨a.toArray⟩ ⟨b.toArray⟩ w) ?_
 rintro e w' ⟨rfl, rfl⟩
 exact ⟨by rw [lib_cmpS], rfl⟩
def cmpN (f g : Fml) : Int := Bn (cmpI f.op g.op) (Bn (C1 f.name g.name) (Bn (cmpI f.val g.val) (Bn (cmpI f.bound g.bound) (cmpI f.args.length g.args.length))))
theorem thenI_ne {a b : Int} (h : a ≠ 0) : Bn a b = a := if_neg h
theorem B8 {a b : Int} (h : a = 0) : Bn a b = b := if_pos h
theorem cmpF_split (f g : Fml) : BV f g = Bn (cmpN f g) (cmpL f.args g.args) := by
 obtain ⟨o, n, v, b, l⟩ := f
 obtain ⟨o', n', v', b', l'⟩ := g
 rw [BV]
 simp only [cmpN, Fml.op, Fml.name, Fml.val, Fml.bound, Fml.args]
 have h : ∀ a b c : Int, Bn (Bn a b) c = Bn a (Bn b c) := by
  intro a b c
  unfold Bn
  by_cases h : a = 0
  ·rw [if_pos h, if_pos h]
  ·rw [if_neg h, if_neg h, if_neg h]
 simp only [h]
set_option maxHeartbeats 1600000 in
theorem cmpNodes_ok (w : World) (b o b' o' : Nat) (f g : Fml) (hf : PF As w b o f) (hg : PF As w b' o' g) :
  Fn Tryz.prog 104 [.pointer (some ⟨b, o, none⟩), .pointer (some ⟨b', o', none⟩)] w fun v w' => v = .int .i64 (cmpN f g) ∧ Ext w w' := by
 obtain ⟨_, a, c, L, hc, _, _⟩ := hf.form
 obtain ⟨_, a', c', L', hc', _, _⟩ := hg.form
 have x0 : w.cell? ⟨b, o + 0, none⟩ = some (.int .i64 f.op) := hc 0 _ rfl
 have x1 : w.cell? ⟨b, o + 1, none⟩ = some (An f.name) := hc 1 _ rfl
 have x2 : w.cell? ⟨b, o + 2, none⟩ = some (.int .i64 f.val) := hc 2 _ rfl
 have x3 : w.cell? ⟨b, o + 3, none⟩ = some (.int .i64 f.bound) := hc 3 _ rfl
 have x4 : w.cell? ⟨b, o + 4, none⟩ = some (.slice a f.args.length c) := hc 4 _ rfl
 have y0 : w.cell? ⟨b', o' + 0, none⟩ = some (.int .i64 g.op) := hc' 0 _ rfl
 have y1 : w.cell? ⟨b', o' + 1, none⟩ = some (An g.name) := hc' 1 _ rfl
 have y2 : w.cell? ⟨b', o' + 2, none⟩ = some (.int .i64 g.val) := hc' 2 _ rfl
 have y3 : w.cell? ⟨b', o' + 3, none⟩ = some (.int .i64 g.bound) := hc' 3 _ rfl
 have y4 : w.cell? ⟨b', o' + 4, none⟩ = some (.slice a' g.args.length c') := hc' 4 _ rfl
 clear hc hc'
 have kw : Ext w w := Ext.refl w
 have qx0 : ∀ W, Ext w W → W.cell? ⟨b, o + 0, none⟩ = some (.int .i64 f.op) := fun W e => e.cell x0 (by simp)
 have qx1 : ∀ W, Ext w W → W.cell? ⟨b, o + 1, none⟩ = some (An f.name) := fun W e => e.cell x1 (by simp)
 have qx2 : ∀ W, Ext w W → W.cell? ⟨b, o + 2, none⟩ = some (.int .i64 f.val) := fun W e => e.cell x2 (by simp)
 have qx3 : ∀ W, Ext w W → W.cell? ⟨b, o + 3, none⟩ = some (.int .i64 f.bound) := fun W e => e.cell x3 (by simp)
 have qx4 : ∀ W, Ext w W → W.cell? ⟨b, o + 4, none⟩ = some (.slice a f.args.length c) := fun W e => e.cell x4 (by simp)
 have qy0 : ∀ W, Ext w W → W.cell? ⟨b', o' + 0, none⟩ = some (.int .i64 g.op) := fun W e => e.cell y0 (by simp)
 have qy1 : ∀ W, Ext w W → W.cell? ⟨b', o' + 1, none⟩ = some (An g.name) := fun W e => e.cell y1 (by simp)
 have qy2 : ∀ W, Ext w W → W.cell? ⟨b', o' + 2, none⟩ = some (.int .i64 g.val) := fun W e => e.cell y2 (by simp)
 have qy3 : ∀ W, Ext w W → W.cell? ⟨b', o' + 3, none⟩ = some (.int .i64 g.bound) := fun W e => e.cell y3 (by simp)
 have qy4 : ∀ W, Ext w W → W.cell? ⟨b', o' + 4, none⟩ = some (.slice a' g.args.length c') := fun W e => e.cell y4 (by simp)
 clear x0 x1 x2 x3 x4 y0 y1 y2 y3 y4
 refine AR Tryz.func104 rfl Tryz.ntmps104 (Nat.le_of_ble_eq_true rfl) (by kernel_rfl) ?_
 repeat refine nx rfl ?_
 refine AA (AC (AG rfl ?_))
 repeat refine nx rfl ?_
 by_cases h0 : f.op = g.op
 rotate_left
 ·refine Ad (.read 0 (.read 1 (.read 2 (.read 3 (.read 4 (.read 5 (.read 6 (.read 7 (.read 8 (.read 9 .done)))))))))) Ax (by kernel_rfl) (fun wd kd ed => ⟨Ext w, ?_, ?_⟩)
  ·exact kw.trans kd
  replace kw := kw.trans kd
  refine D_R rfl rfl (fun W hW => AP rfl Z3) (D_R rfl rfl (fun W hW => AH rfl Z3) (D_R rfl rfl (fun W hW => AD rfl Z3) (D_R rfl rfl (fun W hW => AF rfl (qx0 W hW) Z3) (D_R rfl rfl (fun W hW => AP rfl Z3) (D_R rfl rfl (fun W hW => AH rfl Z3) (D_R rfl rfl (fun W hW => AD rfl Z3) (D_R rfl rfl (fun W hW => AF rfl (qy0 W hW) Z3) (D_neqT rfl rfl rfl rfl (by omega) (D_R rfl rfl (fun W hW => AC (AB rfl Z3)) (Ah ?_))))))))))
  repeat refine nx rfl ?_
  have n0 : cmpI f.op g.op ≠ 0 := fun e => h0 (cmpI_zero.1 e)
  refine Ad (.read 0 (.read 1 (.read 2 (.read 3 (.read 4 (.read 5 (.read 6 (.read 7 (.alt 8 (.read 9 .done) .stop))))))))) Ax (by kernel_rfl) (fun wd kd ed => ⟨Ext w, ?_, ?_⟩)
  ·exact kw.trans kd
  replace kw := kw.trans kd
  refine D_R rfl rfl (fun W hW => AP rfl Z3) (D_R rfl rfl (fun W hW => AH rfl Z3) (D_R rfl rfl (fun W hW => AD rfl Z3) (D_R rfl rfl (fun W hW => AF rfl (qx0 W hW) Z3) (D_R rfl rfl (fun W hW => AP rfl Z3) (D_R rfl rfl (fun W hW => AH rfl Z3) (D_R rfl rfl (fun W hW => AD rfl Z3) (D_R rfl rfl (fun W hW => AF rfl (qy0 W hW) Z3) ?_)))))))
  refine D_E rfl ?_
  refine AQ (cmpInt_ok f.op g.op _) rfl ?_
  rintro _ _ ⟨rfl, rfl⟩
  refine AO ⟨Ext w, fun _ e => e, kw, ?_⟩
  refine D_R rfl rfl (fun W hW => AC (AG rfl Z3)) (Ah ?_)
  repeat refine nx rfl ?_
  exact AI rfl ⟨congrArg (Value.int .i64) (by simp only [cmpN]; rw [thenI_ne n0]), kw⟩
 have z0 := cmpI_zero.2 h0
 refine Ad (.read 0 (.read 1 (.read 2 (.read 3 (.read 4 (.read 5 (.read 6 (.read 7 (.read 8 (.read 9 .done)))))))))) Ax (by kernel_rfl) (fun wd kd ed => ⟨Ext w, ?_, ?_⟩)
 ·exact kw.trans kd
 replace kw := kw.trans kd
 refine D_R rfl rfl (fun W hW => AP rfl Z3) (D_R rfl rfl (fun W hW => AH rfl Z3) (D_R rfl rfl (fun W hW => AD rfl Z3) (D_R rfl rfl (fun W hW => AF rfl (qx0 W hW) Z3) (D_R rfl rfl (fun W hW => AP rfl Z3) (D_R rfl rfl (fun W hW => AH rfl Z3) (D_R rfl rfl (fun W hW => AD rfl Z3) (D_R rfl rfl (fun W hW => AF rfl (qy0 W hW) Z3) (D_neqF rfl rfl rfl rfl (by omega) (D_R rfl rfl (fun W hW => AC (AB rfl Z3)) (Ah ?_))))))))))
 repeat first | refine nx rfl ?_ | refine nf rfl ?_
 refine Ad (.read 0 (.read 1 (.read 2 (.read 3 (.read 4 (.read 5 (.read 6 (.read 7 (.read 8 (.read 9 .done)))))))))) Ax (by kernel_rfl) (fun wd kd ed => ⟨Ext w, ?_, ?_⟩)
 ·exact kw.trans kd
 replace kw := kw.trans kd
 (refine D_R rfl rfl (fun W hW => AP rfl Z3) (D_R rfl rfl (fun W hW => AH rfl Z3) (D_R rfl rfl (fun W hW => AD rfl Z3) (D_R rfl rfl (fun W hW => AF rfl (qx1 W hW) Z3) (D_R rfl rfl (fun W hW => AP rfl Z3) (D_R rfl rfl (fun W hW => AH rfl Z3) (D_R rfl rfl (fun W hW => AD rfl Z3) (D_R rfl rfl (fun W hW => AF rfl (qy1 W hW) Z3) ?_))))))) <;> (refine D_sneq rfl rfl rfl rfl (fun hc => ?_) (fun hc => ?_)) <;> refine D_R rfl rfl (fun W hW => AC (AB rfl Z3)) (Ah ?_))
 ·repeat refine nx rfl ?_
  have n1 : C1 f.name g.name ≠ 0 := fun e => hc (cmpS_zero.1 e)
  refine Ad (.read 0 (.read 1 (.read 2 (.read 3 (.read 4 (.read 5 (.read 6 (.read 7 (.alt 8 (.read 9 .done) .stop))))))))) Ax (by kernel_rfl) (fun wd kd ed => ⟨Ext w, ?_, ?_⟩)
  ·exact kw.trans kd
  replace kw := kw.trans kd
  refine D_R rfl rfl (fun W hW => AP rfl Z3) (D_R rfl rfl (fun W hW => AH rfl Z3) (D_R rfl rfl (fun W hW => AD rfl Z3) (D_R rfl rfl (fun W hW => AF rfl (qx1 W hW) Z3) (D_R rfl rfl (fun W hW => AP rfl Z3) (D_R rfl rfl (fun W hW => AH rfl Z3) (D_R rfl rfl (fun W hW => AD rfl Z3) (D_R rfl rfl (fun W hW => AF rfl (qy1 W hW) Z3) ?_)))))))
  refine D_E rfl ?_
  refine AQ (cmpStr_ok f.name g.name _) rfl ?_
  rintro _ _ ⟨rfl, rfl⟩
  refine AO ⟨Ext w, fun _ e => e, kw, ?_⟩
  refine D_R rfl rfl (fun W hW => AC (AG rfl Z3)) (Ah ?_)
  repeat refine nx rfl ?_
  exact AI rfl ⟨congrArg (Value.int .i64) (by simp only [cmpN]; rw [B8 z0, thenI_ne n1]), kw⟩
 have z1 := cmpS_zero.2 hc
 repeat first | refine nx rfl ?_ | refine nf rfl ?_
 by_cases h2 : f.val = g.val
 rotate_left
 ·refine Ad (.read 0 (.read 1 (.read 2 (.read 3 (.read 4 (.read 5 (.read 6 (.read 7 (.read 8 (.read 9 .done)))))))))) Ax (by kernel_rfl) (fun wd kd ed => ⟨Ext w, ?_, ?_⟩)
  ·exact kw.trans kd
  replace kw := kw.trans kd
  refine D_R rfl rfl (fun W hW => AP rfl Z3) (D_R rfl rfl (fun W hW => AH rfl Z3) (D_R rfl rfl (fun W hW => AD rfl Z3) (D_R rfl rfl (fun W hW => AF rfl (qx2 W hW) Z3) (D_R rfl rfl (fun W hW => AP rfl Z3) (D_R rfl rfl (fun W hW => AH rfl Z3) (D_R rfl rfl (fun W hW => AD rfl Z3) (D_R rfl rfl (fun W hW => AF rfl (qy2 W hW) Z3) (D_neqT rfl rfl rfl rfl (by omega) (D_R rfl rfl (fun W hW => AC (AB rfl Z3)) (Ah ?_))))))))))
  repeat refine nx rfl ?_
  have n2 : cmpI f.val g.val ≠ 0 := fun e => h2 (cmpI_zero.1 e)
  refine Ad (.read 0 (.read 1 (.read 2 (.read 3 (.read 4 (.read 5 (.read 6 (.read 7 (.alt 8 (.read 9 .done) .stop))))))))) Ax (by kernel_rfl) (fun wd kd ed => ⟨Ext w, ?_, ?_⟩)
  ·exact kw.trans kd
  replace kw := kw.trans kd
  refine D_R rfl rfl (fun W hW => AP rfl Z3) (D_R rfl rfl (fun W hW => AH rfl Z3) (D_R rfl rfl (fun W hW => AD rfl Z3) (D_R rfl rfl (fun W hW => AF rfl (qx2 W hW) Z3) (D_R rfl rfl (fun W hW => AP rfl Z3) (D_R rfl rfl (fun W hW => AH rfl Z3) (D_R rfl rfl (fun W hW => AD rfl Z3) (D_R rfl rfl (fun W hW => AF rfl (qy2 W hW) Z3) ?_)))))))
  refine D_E rfl ?_
  refine AQ (cmpInt_ok f.val g.val _) rfl ?_
  rintro _ _ ⟨rfl, rfl⟩
  refine AO ⟨Ext w, fun _ e => e, kw, ?_⟩
  refine D_R rfl rfl (fun W hW => AC (AG rfl Z3)) (Ah ?_)
  repeat refine nx rfl ?_
  exact AI rfl ⟨congrArg (Value.int .i64) (by simp only [cmpN]; rw [B8 z0, B8 z1, thenI_ne n2]), kw⟩
 have z2 := cmpI_zero.2 h2
 refine Ad (.read 0 (.read 1 (.read 2 (.read 3 (.read 4 (.read 5 (.read 6 (.read 7 (.read 8 (.read 9 .done)))))))))) Ax (by kernel_rfl) (fun wd kd ed => ⟨Ext w, ?_, ?_⟩)
 ·exact kw.trans kd
 replace kw := kw.trans kd
 refine D_R rfl rfl (fun W hW => AP rfl Z3) (D_R rfl rfl (fun W hW => AH rfl Z3) (D_R rfl rfl (fun W hW => AD rfl Z3) (D_R rfl rfl (fun W hW => AF rfl (qx2 W hW) Z3) (D_R rfl rfl (fun W hW => AP rfl Z3) (D_R rfl rfl (fun W hW => AH rfl Z3) (D_R rfl rfl (fun W hW => AD rfl Z3) (D_R rfl rfl (fun W hW => AF rfl (qy2 W hW) Z3) (D_neqF rfl rfl rfl rfl (by omega) (D_R rfl rfl (fun W hW => AC (AB rfl Z3)) (Ah ?_))))))))))
 repeat first | refine nx rfl ?_ | refine nf rfl ?_
 by_cases h3 : f.bound = g.bound
 rotate_left
 ·refine Ad (.read 0 (.read 1 (.read 2 (.read 3 (.read 4 (.read 5 (.read 6 (.read 7 (.read 8 (.read 9 .done)))))))))) Ax (by kernel_rfl) (fun wd kd ed => ⟨Ext w, ?_, ?_⟩)
  ·exact kw.trans kd
  replace kw := kw.trans kd
  refine D_R rfl rfl (fun W hW => AP rfl Z3) (D_R rfl rfl (fun W hW => AH rfl Z3) (D_R rfl rfl (fun W hW => AD rfl Z3) (D_R rfl rfl (fun W hW => AF rfl (qx3 W hW) Z3) (D_R rfl rfl (fun W hW => AP rfl Z3) (D_R rfl rfl (fun W hW => AH rfl Z3) (D_R rfl rfl (fun W hW => AD rfl Z3) (D_R rfl rfl (fun W hW => AF rfl (qy3 W hW) Z3) (D_neqT rfl rfl rfl rfl (by omega) (D_R rfl rfl (fun W hW => AC (AB rfl Z3)) (Ah ?_))))))))))
  repeat refine nx rfl ?_
  have n3 : cmpI f.bound g.bound ≠ 0 := fun e => h3 (cmpI_zero.1 e)
  refine Ad (.read 0 (.read 1 (.read 2 (.read 3 (.read 4 (.read 5 (.read 6 (.read 7 (.alt 8 (.read 9 .done) .stop))))))))) Ax (by kernel_rfl) (fun wd kd ed => ⟨Ext w, ?_, ?_⟩)
  ·exact kw.trans kd
  replace kw := kw.trans kd
  refine D_R rfl rfl (fun W hW => AP rfl Z3) (D_R rfl rfl (fun W hW => AH rfl Z3) (D_R rfl rfl (fun W hW => AD rfl Z3) (D_R rfl rfl (fun W hW => AF rfl (qx3 W hW) Z3) (D_R rfl rfl (fun W hW => AP rfl Z3) (D_R rfl rfl (fun W hW => AH rfl Z3) (D_R rfl rfl (fun W hW => AD rfl Z3) (D_R rfl rfl (fun W hW => AF rfl (qy3 W hW) Z3) ?_)))))))
  refine D_E rfl ?_
  refine AQ (cmpInt_ok f.bound g.bound _) rfl ?_
  rintro _ _ ⟨rfl, rfl⟩
  refine AO ⟨Ext w, fun _ e => e, kw, ?_⟩
  refine D_R rfl rfl (fun W hW => AC (AG rfl Z3)) (Ah ?_)
  repeat refine nx rfl ?_
  exact AI rfl ⟨congrArg (Value.int .i64) (by simp only [cmpN]; rw [B8 z0, B8 z1, B8 z2, thenI_ne n3]), kw⟩
 have z3 := cmpI_zero.2 h3
 refine Ad (.read 0 (.read 1 (.read 2 (.read 3 (.read 4 (.read 5 (.read 6 (.read 7 (.read 8 (.read 9 .done)))))))))) Ax (by kernel_rfl) (fun wd kd ed => ⟨Ext w, ?_, ?_⟩)
 ·exact kw.trans kd
 replace kw := kw.trans kd
 refine D_R rfl rfl (fun W hW => AP rfl Z3) (D_R rfl rfl (fun W hW => AH rfl Z3) (D_R rfl rfl (fun W hW => AD rfl Z3) (D_R rfl rfl (fun W hW => AF rfl (qx3 W hW) Z3) (D_R rfl rfl (fun W hW => AP rfl Z3) (D_R rfl rfl (fun W hW => AH rfl Z3) (D_R rfl rfl (fun W hW => AD rfl Z3) (D_R rfl rfl (fun W hW => AF rfl (qy3 W hW) Z3) (D_neqF rfl rfl rfl rfl (by omega) (D_R rfl rfl (fun W hW => AC (AB rfl Z3)) (Ah ?_))))))))))
 repeat first | refine nx rfl ?_ | refine nf rfl ?_
 refine Ad (.read 0 (.read 1 (.read 2 (.read 3 (.read 4 (.read 5 (.read 6 (.read 7 (.read 8 (.read 9 (.alt 10 (.read 11 .done) .stop))))))))))) Ax (by kernel_rfl) (fun wd kd ed => ⟨Ext w, ?_, ?_⟩)
 ·exact kw.trans kd
 replace kw := kw.trans kd
 refine D_R rfl rfl (fun W hW => AP rfl Z3) (D_R rfl rfl (fun W hW => AH rfl Z3) (D_R rfl rfl (fun W hW => AD rfl Z3) (D_R rfl rfl (fun W hW => AF rfl (qx4 W hW) Z3) (D_R rfl rfl (fun W hW => AZ rfl Z3) (D_R rfl rfl (fun W hW => AP rfl Z3) (D_R rfl rfl (fun W hW => AH rfl Z3) (D_R rfl rfl (fun W hW => AD rfl Z3) (D_R rfl rfl (fun W hW => AF rfl (qy4 W hW) Z3) (D_R rfl rfl (fun W hW => AZ rfl Z3) ?_)))))))))
 refine D_E rfl ?_
 refine AQ (cmpInt_ok f.args.length g.args.length _) rfl ?_
 rintro _ _ ⟨rfl, rfl⟩
 refine AO ⟨Ext w, fun _ e => e, kw, ?_⟩
 refine D_R rfl rfl (fun W hW => AC (AG rfl Z3)) (Ah ?_)
 repeat refine nx rfl ?_
 exact AI rfl ⟨congrArg (Value.int .i64) (by simp only [cmpN]; rw [B8 z0, B8 z1, B8 z2, B8 z3]), kw⟩
end Go.Proofs.YtkhhjdjmhbdjfaaGreatDoor
namespace Go.Proofs.YtkhhjdjmhbdjfaaGreatDoor
open Go.RowKit
set_option linter.unusedVariables false
variable {mk : Prop} [MK mk]
section
attribute [local semireducible] WC AX Bx BT Bu finQ finD Bw
variable {P : Program} {all : Array Oper} {Z : Fr → DS → List PanicEntry → World → Prop} {K : Fr → DS → World → Prop} {rest : List Oper} {f : Fr} {ds : DS} {w : World} {d : Nat} {ty : TypeId} {pos : String} {af : Array Edge}
class PtrT (P : Program) (T : TypeId) (e : outParam TypeId) : Prop where
 und : P.underlying T = some (.pointer e)
 info : ∃ j, P.info? e = some j ∧ j.size ≠ 0
theorem ptrT_of {T e : TypeId} (h : P.underlying T = some (.pointer e)) (h2 : ((P.info? e).map fun j => decide (j.size ≠ 0)) = some true) : PtrT P T e := by
 obtain ⟨j, hj, h3⟩ := Option.map_eq_some_iff.1 h2
 exact ⟨h, j, hj, by simpa using h3⟩
theorem run_sameAddr_unm (w : World) {a b : Addr} {ca cb : Array Value} {ta tb : TypeId} {fa fb : Nat × Nat} (ha : w.heap[a.block]? = some (.cells ca ta fa)) (hb : w.heap[b.block]? = some (.cells cb tb fb)) (hu : fa = (0, 0) ∨ fb = (0, 0)) (h0 : 0 < ca.size) (h1 : 0 < cb.size) (hne : a ≠ b) : (sameAddr a b).run P w = .ok false w := by
 by_cases hbl : a.block = b.block
 ·simp [sameAddr, hbl, hne]
 ·have e0 : ca.size ≠ 0 := by omega
  have e1 : cb.size ≠ 0 := by omega
  have hn : (match some (ta, ca.size) with | some (_, 0) => true | _ => false) = false := by
   cases h : ca.size with
   | zero => exact absurd h e0
   | succ n => rfl
  have hn' : (match some (tb, cb.size) with | some (_, 0) => true | _ => false) = false := by
   cases h : cb.size with
   | zero => exact absurd h e1
   | succ n => rfl
  rcases hu with rfl | rfl
  ·simp [sameAddr, hbl, World.frozen?, ha, hb, noView, viewAt, World.shape?, mayBeOne, stringish, e0, e1]
   try (split <;> simp [hn, hn'])
  ·simp [sameAddr, hbl, World.frozen?, ha, hb, noView, viewAt, World.shape?, mayBeOne, stringish, e0, e1]
   try (split <;> simp [hn, hn'])
theorem W_ptrEq {T yt e : TypeId} {x y : Operand} {a b : Addr} {ca cb : Array Value} {ta tb : TypeId} {fa fb : Nat × Nat} [hT : PtrT P T e] (hx : ev f x = .pointer (some a)) (hy : ev f y = .pointer (some b)) (ha : w.heap[a.block]? = some (.cells ca ta fa)) (hb : w.heap[b.block]? = some (.cells cb tb fb)) (hu : fa = (0, 0) ∨ fb = (0, 0)) (h0 : 0 < ca.size) (h1 : 0 < cb.size)
  (h : AX P all Z K rest (upd f d (.bool (decide (a = b)))) ds w) : AX P all Z K (⟨some d, .binOp .eql T x y yt, ty, pos, af, none⟩ :: rest) f ds w := by
 refine BB rfl ?_ h
 obtain ⟨j, hj, hs⟩ := hT.info
 have hd : ∀ n : Nat, (Op.equalIn (n + 1) T (.pointer (some a)) (.pointer (some b))).run P w = .ok (decide (a = b)) w := fun n => by
  by_cases hab : a = b
  ·subst hab
   simp [Op.equalIn, run_underlying hT.und, sizeOf, typeInfo, hj, run_sameAddr_same]
  ·simp [Op.equalIn, run_underlying hT.und, sizeOf, typeInfo, hj, hs, run_sameAddr_unm w ha hb hu h0 h1 hab, hab]
 have hr : (binOp .eql T (.pointer (some a)) (.pointer (some b))).run P w = .ok (.bool (decide (a = b))) w := by
  simp only [binOp]
  simp [Op.equal, Op.maxDepth, hd 9999]
 simp [execOp, hx, hy, eqGuard, hr]
end
instance : PtrT Tryz.prog 50 25 := ptrT_of Tryz.underlying50 (by kernel_rfl)
end Go.Proofs.YtkhhjdjmhbdjfaaGreatDoor
namespace Go.Proofs.YtkhhjdjmhbdjfaaGreatDoor
open Go.RowKit
set_option linter.unusedVariables false
variable {mk : Prop} [MK mk]
theorem sl_same {ok ok' : Nat → Prop} {w : World} {a : Option Addr} {n c c' k : Nat} {cs cs' : List Value} (h : Sl ok w (.slice a n c) n cs) (h' : Sl ok' w (.slice a n c') n cs') (hl : cs.length = n * k) (hl' : cs'.length = n * k) : cs = cs' := by
 by_cases h0 : n = 0
 ·subst h0
  have e1 : cs = [] := List.eq_nil_of_length_eq_zero (by simpa using hl)
  have e2 : cs' = [] := List.eq_nil_of_length_eq_zero (by simpa using hl')
  rw [e1, e2]
 ·obtain ⟨_, _, e, _, _, _, h4⟩ := h
  obtain ⟨_, _, e', _, _, _, h4'⟩ := h'
  cases e; cases e'
  obtain ⟨b, o, rfl, _, hc⟩ := h4.resolve_left h0
  obtain ⟨b', o', e, _, hc'⟩ := h4'.resolve_left h0
  cases e
  refine List.ext_getElem? fun i => ?_
  by_cases hi : i < n * k
  ·have e1 := List.getElem?_eq_getElem (l := cs) (i := i) (by omega)
   have e2 := List.getElem?_eq_getElem (l := cs') (i := i) (by omega)
   have h1 := hc i _ e1
   have h2 := hc' i _ e2
   rw [e1, e2, ← h1, ← h2]
  ·rw [List.getElem?_eq_none (by omega), List.getElem?_eq_none (by omega)]
theorem flat_inj (n : Nat) (hn : 0 < n) : ∀ {L M : List (List Value)}, (∀ d ∈ L, d.length = n) → (∀ d ∈ M, d.length = n) → L.flatten = M.flatten → L = M
 | [], [], _, _, _ => rfl
 | [], d :: M, _, hM, e => by
  have := congrArg List.length e
  have h1 := hM d (by simp)
  simp only [List.flatten_nil, List.length_nil, List.flatten_cons, List.length_append] at this
  omega
 | c :: L, [], hL, _, e => by
  have := congrArg List.length e
  have h1 := hL c (by simp)
  simp only [List.flatten_nil, List.length_nil, List.flatten_cons, List.length_append] at this
  omega
 | c :: L, d :: M, hL, hM, e => by
  rw [List.flatten_cons, List.flatten_cons] at e
  obtain ⟨e1, e2⟩ := List.append_inj e (by rw [hL c (by simp), hM d (by simp)])
  rw [e1, flat_inj n hn (fun x hx => hL x (by simp [hx])) (fun x hx => hM x (by simp [hx])) e2]
theorem FAt.uniq {ok ok' : Nat → Prop} {w : World} : ∀ (f g : Fml) (v : Value), FAt ok w v f → FAt ok' w v g → f = g
 | .mk op nm x b args, g, v, hf, hg => by
  obtain ⟨av, rfl, L, hS, hL, h5, hA⟩ := hf.form
  obtain ⟨av', e, L', hS', hL', h5', hA'⟩ := hg.form
  simp only [Value.agg.injEq, Array.mk.injEq, List.cons.injEq, Value.int.injEq, true_and, and_true] at e
  obtain ⟨e1, e2, e3, e4, e5⟩ := e
  subst e5
  obtain ⟨a, c, rfl, hS0⟩ := id hS
  obtain ⟨a', c', e6, hS0'⟩ := id hS'
  have hlen : args.length = g.args.length := (Value.slice.inj e6).2.1
  have e7 : L.flatten = L'.flatten := by
   have hS2 : Sl ok' w (.slice a args.length c) args.length L'.flatten := by rw [hlen]; rw [← hlen]; exact hlen ▸ hS'
   refine sl_same (k := 5) hS hS2 ?_ ?_
   ·rw [CT 5 L h5, hL]
   ·rw [CT 5 L' h5', hL']; exact congrArg (· * 5) hlen.symm
  have e8 := flat_inj 5 (by omega) h5 h5' e7
  subst e8
  have e9 : args = g.args := by
   refine List.ext_getElem? fun i => ?_
   by_cases hi : i < args.length
   ·have hLi : L[i]? = some L[i] := List.getElem?_eq_getElem (by omega)
    have ha : args[i]? = some args[i] := List.getElem?_eq_getElem hi
    have hb : g.args[i]? = some g.args[i] := List.getElem?_eq_getElem (by omega)
    rw [ha, hb, FAt.uniq args[i] g.args[i] _ (hA i _ _ hLi ha) (hA' i _ _ hLi hb)]
   ·rw [List.getElem?_eq_none (by omega), List.getElem?_eq_none (by omega)]
  have e2' : nm = g.name := by
   have h2 : An nm = An g.name := e2
   simp only [An, Value.string.injEq, ByteArray.mk.injEq] at h2
   simpa using congrArg Array.toList h2
  obtain ⟨o, n', v', b', l'⟩ := g
  have e1 : op = o := e1
  have e2 : nm = n' := e2'
  have e3 : x = v' := e3
  have e4 : b = b' := e4
  have e5 : args = l' := e9
  rw [e1, e2, e3, e4, e5]
 termination_by f => f
 decreasing_by
  have := List.sizeOf_lt_of_mem (List.getElem_mem hi)
  simp_wf
  omega
def FL (ok : Nat → Prop) (w : World) (v : Value) (l : List Fml) : Prop := ∃ a c L, v = .slice a l.length c ∧ Sl ok w (.slice a l.length c) l.length L.flatten ∧ FsAt ok w L l
theorem FL.keep {ok : Nat → Prop} {X : List Nat} {w w' : World} {v : Value} {l : List Fml} (h : FL ok w v l) (k : Keep X w w') (hX : ∀ b, ok b → b ∉ X) : FL ok w' v l := by
 obtain ⟨a, c, L, rfl, h1, h2⟩ := h
 exact ⟨a, c, L, rfl, h1.keep k hX, h2.keep k hX⟩
theorem PF.args {ok : Nat → Prop} {w : World} {b o : Nat} {f : Fml} (h : PF ok w b o f) : ∃ v, w.cell? ⟨b, o + 4, none⟩ = some v ∧ FL ok w v f.args := by
 obtain ⟨_, a, c, L, hc, hS, hF⟩ := h.form
 exact ⟨_, hc 4 _ rfl, a, c, L, rfl, hS, hF⟩
theorem FL.cons {ok : Nat → Prop} {w : World} {v : Value} {x : Fml} {l : List Fml} (h : FL ok w v (x :: l)) : ∃ b o c, v = .slice (some ⟨b, o, none⟩) (l.length + 1) c ∧ 1 ≤ c ∧ PF ok w b o x ∧ FL ok w (.slice (adv c 1 5 (some ⟨b, o, none⟩)) l.length (c - 1)) l := by
 obtain ⟨a, c, L, rfl, hS, hF⟩ := h
 obtain ⟨a', c', e, h1, h2, h3, h4⟩ := hS
 cases e
 obtain ⟨b, o, rfl, hb, hc⟩ := h4.resolve_left (by simp)
 obtain ⟨hL, h5, hA⟩ := hF
 match L, hL, h5, hA, hc with
 | d :: L, hL, h5, hA, hc =>
  have hd := h5 d (by simp)
  have hcd : Cells w b o d := fun i u hu => hc i u (by rw [List.flatten_cons, List.getElem?_append_left (List.getElem?_eq_some_iff.1 hu).1]; exact hu)
  have hLl : L.length = l.length := by simpa using hL
  refine ⟨b, o, c, rfl, by simp at h1; omega, ⟨hb, d, hd, hcd, hA 0 d x rfl rfl⟩, _, _, L, rfl, ⟨_, _, rfl, by simp at h1; omega, by omega, ?_, ?_⟩, hLl, fun c hc => h5 c (by simp [hc]), fun i c g hc hg => hA (i + 1) c g (by simpa using hc) (by simpa using hg)⟩
  ·intro ha
   unfold adv at ha
   split at ha
   ·cases ha
   ·simp at ha
  ·by_cases h0 : l.length = 0
   ·exact .inl h0
   ·refine .inr ⟨b, o + 5, ?_, hb, ?_⟩
    ·unfold adv
     rw [if_neg (by simp at h1; omega)]
     rfl
    ·intro i u hu
     have := hc (5 + i) u (by rw [List.flatten_cons, List.getElem?_append_right (by omega), hd, show 5 + i - 5 = i by omega]; exact hu)
     rw [Nat.add_assoc]; exact this
theorem FL.form {ok : Nat → Prop} {w : World} {v : Value} {l : List Fml} (h : FL ok w v l) : ∃ a c, v = .slice a l.length c := by
 obtain ⟨a, c, L, rfl, _⟩ := h
 exact ⟨a, c, rfl⟩
theorem PF.uniq {ok ok' : Nat → Prop} {w : World} {b o : Nat} {f g : Fml} (hf : PF ok w b o f) (hg : PF ok' w b o g) : f = g := by
 obtain ⟨_, d, hd, hc, h1⟩ := hf
 obtain ⟨_, d', hd', hc', h2⟩ := hg
 have : d = d' := by
  refine List.ext_getElem? fun i => ?_
  by_cases hi : i < 5
  ·have e1 := List.getElem?_eq_getElem (l := d) (i := i) (by omega)
   have e2 := List.getElem?_eq_getElem (l := d') (i := i) (by omega)
   rw [e1, e2, ← hc i _ e1, ← hc' i _ e2]
  ·rw [List.getElem?_eq_none (by omega), List.getElem?_eq_none (by omega)]
 subst this
 exact FAt.uniq f g _ h1 h2
theorem cell_blk {w : World} {b o : Nat} {v : Value} (h : w.cell? ⟨b, o, none⟩ = some v) : ∃ c t fr, w.heap[b]? = some (.cells c t fr) ∧ 0 < c.size ∧ c[o]? = some v := by
 unfold World.cell? at h
 split at h
 ·rename_i c t fr heq
  simp at h
  exact ⟨c, t, fr, heq, by have := (Array.getElem?_eq_some_iff.1 h).1; omega, h⟩
 ·cases h
theorem unm_blk {w : World} {b o : Nat} {n : Int} (hu : Unm w b) (h : w.cell? ⟨b, o, none⟩ = some (.int .i64 n)) : ∃ c t, w.heap[b]? = some (.cells c t (0, 0)) ∧ 0 < c.size := by
 obtain ⟨c, t, fr, h1, h2, h3⟩ := cell_blk h
 rcases hu c t fr h1 with rfl | h4
 ·exact ⟨c, t, h1, h2⟩
 ·obtain ⟨m, e⟩ := h4 o _ h3
  cases e
section
attribute [local semireducible] WC AX Bx BT Bu finQ finD Bw
variable {P : Program} {all : Array Oper} {Z : Fr → DS → List PanicEntry → World → Prop} {K : Fr → DS → World → Prop} {rest : List Oper} {f : Fr} {ds : DS} {w : World} {d : Nat} {ty : TypeId} {pos : String} {af : Array Edge}
theorem W_slice_arr_h {T e size len : Nat} {b o : Nat} {x hi : Operand} {k' : IntKind} {h' : Int} [hT : ArrT P T len e size] (hx : ev f x = .pointer (some ⟨b, o, none⟩)) (hh : ev f hi = .int k' h') (h1 : 0 ≤ h') (h2 : h' ≤ len)
  (h : AX P all Z K rest (upd f d (.slice (some ⟨b, o, none⟩) h'.toNat len)) ds w) : AX P all Z K (⟨some d, .slice T x none (some hi) none, ty, pos, af, none⟩ :: rest) f ds w := by
 obtain ⟨q, hq, hs⟩ := hT.out
 refine BB rfl ?_ h
 simp only [execOp, hx, hh, Option.map_some, Option.map_none, Instr.sliceAt, Sem.run_bind, run_underlying hT.und, Result.andThen_ok, Instr.sureAddr, Instr.sliceBounds, Instr.sliceBound, asIntOf, Sem.run_pure, sizeOf, typeInfo, program]
 simp [Sem.run, hq, hs, h1, h2, Addr.add_lit]
theorem run_append_roomE (t ty e e0 : TypeId) (i : TypeInfo) (ht : P.underlying t = some (.slice e)) (hi : P.info? e = some i)
  (g sLen sCap : Nat) (cur : Array Value) (hg : w.heap[g]? = some (.cells cur e0 (0, 0)))
  (a : Addr) (m c : Nat) (news : List Value) (hl : news.length = m * i.size) (hnews : ∀ j u, news[j]? = some u → w.cell? (a.add j) = some u) (h1 : ∀ u ∈ news, u.oneCell' = true)
  (hroom : sLen + m ≤ sCap) (hfit : sLen * i.size + news.length ≤ cur.size) :
  (Builtin.append_ #[t, t] ty #[.slice (some ⟨g, 0, none⟩) sLen sCap, .slice (some a) m c]).run P w =
   .ok (.slice (some ⟨g, 0, none⟩) (sLen + m) sCap) (w.setRow g (cur.toList.take (sLen * i.size) ++ news ++ cur.toList.drop (sLen * i.size + news.length)).toArray) := by
 have hf := run_firstCells_some (P := P) w i.size m a m c news hl hnews
 have hst := run_storeCells_at P g (sLen * i.size) e0 news 0 cur w hg (by simpa using hfit) h1
 simp only [Nat.add_zero] at hst
 simp [Builtin.append_, run_underlying ht, sizeOf, typeInfo, hi, Builtin.lenOf, hroom, hf, Addr.add_lit, hst]
theorem W_append1 {T e e0 size bytes n cap g : Nat} {z : Value} {s x : Operand} {sv : Value} {cur : Array Value} {cs : List Value} {ok : Nat → Prop} [hT : SlT P T e size bytes z] (hv : ev f s = .slice (some ⟨g, 0, none⟩) n cap) (hx : ev f x = sv)
  (hg : w.heap[g]? = some (.cells cur e0 (0, 0))) (hcs : cur.size = cap * size) (hnc : n ≤ cap) (hcm : cap ≤ maxLen) (hs : Sl ok w sv 1 cs) (hsz : 0 < size) (hzs : z.cells.size = size) (hl : cs.length = size) (h1 : oneC cs) (hm : n + 1 ≤ 9223372036854775807) (hb : (n + 1) * bytes ≤ 140737488355328)
  (h : ∀ g' cap' e' (cur' : Array Value) w', (g' = g ∨ g' = w.heap.size) → w'.heap[g']? = some (.cells cur' e' (0, 0)) → cur'.size = cap' * size → n + 1 ≤ cap' → cap' ≤ maxLen → cur'.toList.take ((n + 1) * size) = cur.toList.take (n * size) ++ cs → Keep [g] w w' →
   AX P all Z K rest (upd f d (.slice (some ⟨g', 0, none⟩) (n + 1) cap')) ds w') :
  AX P all Z K (⟨some d, .call ⟨.builtin .append, #[s, x], #[T, T]⟩, ty, pos, af, none⟩ :: rest) f ds w := by
 obtain ⟨i, hi, hz, hsi, hby⟩ := hT.out
 obtain ⟨a, cp, rfl, hmc, _, hnil, hcells⟩ := hs
 obtain ⟨b, off, rfl, _, hc⟩ := hcells.resolve_left (by omega)
 have hnews : ∀ j u, cs[j]? = some u → w.cell? ((⟨b, off, none⟩ : Addr).add j) = some u := fun j u hu => by rw [Addr.add_lit]; exact hc j u hu
 have hsl : cs.length = 1 * i.size := by rw [hsi]; omega
 have htk : (cur.toList.take (n * size)).length = n * size := by
  rw [List.length_take, Array.length_toList, hcs]
  exact Nat.min_eq_left (Nat.mul_le_mul_right _ hnc)
 by_cases hroom : n + 1 ≤ cap
 ·have hfit : n * i.size + cs.length ≤ cur.size := by
   rw [hsi, hl, hcs, ← Nat.succ_mul]; exact Nat.mul_le_mul_right _ hroom
  have hr := run_append_roomE (P := P) (w := w) T ty e e0 i hT.und hi g n cap cur hg ⟨b, off, none⟩ 1 cp cs hsl hnews h1 hroom hfit
  refine BB (w' := w.setRow g (cur.toList.take (n * i.size) ++ cs ++ cur.toList.drop (n * i.size + cs.length)).toArray) rfl (by simp [execOp, resolve, invoke, builtin, hv, hx, hr]) (h g cap e0 _ _ (.inl rfl) (setRow_heap w g cur _ e0 _ hg) ?_ hroom hcm ?_ ?_)
  ·simp only [List.size_toArray, List.length_append, List.length_take, List.length_drop, Array.length_toList]
   omega
  ·rw [hsi, List.append_assoc]
   have : (n + 1) * size = (cur.toList.take (n * size) ++ cs).length := by rw [List.length_append, htk, hl, Nat.succ_mul]
   rw [this, ← List.append_assoc]
   exact List.take_left
  ·exact ⟨rfl, rfl, rfl, by simp, fun k _ hk => setRow_other w g k _ (by simpa using hk), fun _ => mark_put (g := g) (by simp [World.setRow]) (fun k hk => setRow_other w g k _ hk) (Unm.cells (setRow_heap w g _ _ e0 _ hg)), Nat.le_refl _⟩
 ·have holds : ∀ j u, (cur.toList.take (n * size))[j]? = some u → w.cell? ((⟨g, 0, none⟩ : Addr).add j) = some u := fun j u hu => by
   rw [Addr.add_lit, Nat.zero_add]
   rw [List.getElem?_take] at hu
   split at hu
   ·simp only [World.cell?, hg]
    simpa using hu
   ·cases hu
  have hm63 : ((n + 1 : Nat) : Int) ≤ 9223372036854775807 := by omega
  have hr := run_append_grow (P := P) w T ty e i z hT.und hi hz ⟨g, 0, none⟩ n cap (cur.toList.take (n * size)) (by rw [hsi]; exact htk) holds ⟨b, off, none⟩ 1 cp cs hsl hnews (by omega) hm63 (by rw [hby]; exact growslice_fits (by omega) hb)
  refine BB (w' := w.drew.alloc (.cells ((cur.toList.take (n * size)).toArray ++ cs.toArray ++ Builtin.zeroCells z.cells (grownCap w (n + 1) cap e - (n + 1))) e)) rfl (by simp [execOp, resolve, invoke, builtin, hv, hx, hr]) (h w.heap.size _ e _ _ (.inr rfl) (heap_alloc_new w.drew _) ?_ (grownCap_ge w (n + 1) cap e) (grownCap_le_maxLen w (n + 1) cap e (by unfold maxLen; omega)) ?_ ?_)
  ·simp only [Array.size_append, List.size_toArray, size_zeroCells, hzs, htk, hl]
   have hge := grownCap_ge w (n + 1) cap e
   rw [← Nat.succ_mul, ← Nat.add_mul]
   congr 1
   omega
  ·simp only [Array.toList_append, List.append_assoc]
   have : (n + 1) * size = (cur.toList.take (n * size) ++ cs).length := by rw [List.length_append, htk, hl, Nat.succ_mul]
   rw [this, ← List.append_assoc]
   exact List.take_left
  ·exact ⟨rfl, rfl, rfl, by simp, fun k hk _ => heap_alloc_old w.drew _ hk, fun _ => mark_new (by simp) (fun k hk => heap_alloc_old w.drew _ hk) (Unm.cells (heap_alloc_new w.drew _)), Nat.le_succ _⟩
end
end Go.Proofs.YtkhhjdjmhbdjfaaGreatDoor
namespace Go.Proofs.YtkhhjdjmhbdjfaaGreatDoor
open Go.RowKit
set_option linter.unusedVariables false
variable {mk : Prop} [MK mk]
abbrev PP := List Fml × List Fml
def cmpSt : List PP → Int
 | [] => 0
 | p :: r => Bn (cmpL p.1 p.2) (cmpSt r)
def wtSt (ps : List PP) : Nat := (ps.map fun p => 2 * szL p.1 + 1).sum
theorem BJ (ps : List PP) (p : PP) : wtSt (ps ++ [p]) = wtSt ps + (2 * szL p.1 + 1) := by simp [wtSt]
theorem wtSt_len : ∀ ps : List PP, ps.length ≤ wtSt ps
 | [] => Nat.zero_le _
 | p :: ps => by have := wtSt_len ps; simp only [wtSt, List.map_cons, List.sum_cons, List.length_cons] at this ⊢; omega
def Row2 (okf okg : Nat → Prop) (W : World) (c : List Value) (p : PP) : Prop := ∃ v v', c = [v, v'] ∧ FL okf W v p.1 ∧ FL okg W v' p.2 ∧ p.1.length = p.2.length
theorem Row2.keep {okf okg : Nat → Prop} {X : List Nat} {W W' : World} {c : List Value} {p : PP} (h : Row2 okf okg W c p) (k : Keep X W W') (h1 : ∀ b, okf b → b ∉ X) (h2 : ∀ b, okg b → b ∉ X) : Row2 okf okg W' c p := by
 obtain ⟨v, v', e, a, b, l⟩ := h
 exact ⟨v, v', e, a.keep k h1, b.keep k h2, l⟩
structure CS (okf okg : Nat → Prop) (C : Nat) (W : World) (g cap : Nat) (e : TypeId) (L : List (List Value)) (rest : List Value) (ps : List PP) : Prop where
 ge : C ≤ g
 blk : Blk W g e (L.flatten ++ rest)
 len : (L.flatten ++ rest).length = cap * 2
 mx : cap ≤ maxLen
 two : ∀ c ∈ L, c.length = 2
 ll : L.length = ps.length
 rows : ∀ (i : Nat) (c : List Value) (p : PP), L[i]? = some c → ps[i]? = some p → Row2 okf okg W c p
 lo : ∀ b, okf b ∨ okg b → b < C
section
variable {okf okg : Nat → Prop} {C g cap : Nat} {W W' : World} {e : TypeId} {L : List (List Value)} {rest : List Value} {ps : List PP}
theorem CS.flat (h : CS okf okg C W g cap e L rest ps) : L.flatten.length = ps.length * 2 := by rw [CT 2 L h.two, h.ll]
theorem CS.le (h : CS okf okg C W g cap e L rest ps) : ps.length ≤ cap := by
 have h1 := h.len
 rw [List.length_append, h.flat] at h1
 omega
theorem CS.ext (h : CS okf okg C W g cap e L rest ps) (k : Ext W W') : CS okf okg C W' g cap e L rest ps :=
 ⟨h.ge, h.blk.keep k (by simp), h.len, h.mx, h.two, h.ll, fun i c p hc hp => (h.rows i c p hc hp).keep k (by simp) (by simp), h.lo⟩
theorem CS.cut {c : List Value} {p : PP} (h : CS okf okg C W g cap e (L ++ [c]) rest (ps ++ [p])) : CS okf okg C W g cap e L (c ++ rest) ps := by
 have e1 : (L ++ [c]).flatten ++ rest = L.flatten ++ (c ++ rest) := by simp
 refine ⟨h.ge, by rw [← e1]; exact h.blk, by rw [← e1]; exact h.len, h.mx, fun d hd => h.two d (by simp [hd]), by have := h.ll; simpa using this, fun i d q hd hq => ?_, h.lo⟩
 have hi := (List.getElem?_eq_some_iff.1 hd).1
 have hi2 := (List.getElem?_eq_some_iff.1 hq).1
 exact h.rows i d q (by rw [List.getElem?_append_left hi]; exact hd) (by rw [List.getElem?_append_left hi2]; exact hq)
theorem CS.split (h : CS okf okg C W g cap e L rest ps) (h0 : 0 < ps.length) : ∃ L' ps' v v' l m, L = L' ++ [[v, v']] ∧ ps = ps' ++ [(l, m)] ∧ FL okf W v l ∧ FL okg W v' m ∧ l.length = m.length := by
 have hl := h.ll
 obtain ⟨ps', q, rfl⟩ : ∃ ps' q, ps = ps' ++ [q] := ⟨ps.dropLast, ps.getLast (by intro e; simp [e] at h0), (List.dropLast_concat_getLast _).symm⟩
 obtain ⟨L', c, rfl⟩ : ∃ L' c, L = L' ++ [c] := ⟨L.dropLast, L.getLast (by intro e; simp [e] at hl), (List.dropLast_concat_getLast _).symm⟩
 simp only [List.length_append, List.length_singleton] at hl
 have hr := h.rows ps'.length c q (by rw [List.getElem?_append_right (by omega)]; simp [show ps'.length - L'.length = 0 by omega]) (by simp)
 obtain ⟨v, v', rfl, h1, h2, h3⟩ := hr
 exact ⟨L', ps', v, v', q.1, q.2, rfl, rfl, h1, h2, h3⟩
theorem CS.cells {v v' : Value} {l m : List Fml} (h : CS okf okg C W g cap e (L ++ [[v, v']]) rest (ps ++ [(l, m)])) : W.cell? ⟨g, 0 + ps.length * 2 + 0, none⟩ = some v ∧ W.cell? ⟨g, 0 + ps.length * 2 + 1, none⟩ = some v' ∧ 0 + ps.length * 2 + 1 < ((L ++ [[v, v']]).flatten ++ rest).length := by
 have hll := h.ll
 simp only [List.length_append, List.length_singleton] at hll
 have hL : L.flatten.length = ps.length * 2 := by rw [CT 2 L fun c hc => h.two c (by simp [hc])]; omega
 have e0 : ((L ++ [[v, v']]).flatten ++ rest)[0 + ps.length * 2 + 0]? = some v := by
  simp only [List.flatten_append, List.flatten_cons, List.flatten_nil, List.append_nil, List.append_assoc]
  rw [List.getElem?_append_right (by omega)]
  simp [hL]
 have e1 : ((L ++ [[v, v']]).flatten ++ rest)[0 + ps.length * 2 + 1]? = some v' := by
  simp only [List.flatten_append, List.flatten_cons, List.flatten_nil, List.append_nil, List.append_assoc]
  rw [List.getElem?_append_right (by omega)]
  rw [show 0 + ps.length * 2 + 1 - L.flatten.length = 1 by omega]; rfl
 exact ⟨h.blk.cell e0, h.blk.cell e1, (List.getElem?_eq_some_iff.1 e1).1⟩
theorem CS.put {v v' u u' : Value} {l m l' m' : List Fml} (h : CS okf okg C W g cap e (L ++ [[v, v']]) rest (ps ++ [(l, m)])) (k : Keep [g] W W')
  (hb : Blk W' g e ((((L ++ [[v, v']]).flatten ++ rest).set (0 + ps.length * 2 + 0) u).set (0 + ps.length * 2 + 1) u')) (h1 : FL okf W' u l') (h2 : FL okg W' u' m') (hlm : l'.length = m'.length) : CS okf okg C W' g cap e (L ++ [[u, u']]) rest (ps ++ [(l', m')]) := by
 have hll := h.ll
 simp only [List.length_append, List.length_singleton] at hll
 have hL2 : ∀ c ∈ L, c.length = 2 := fun c hc => h.two c (by simp [hc])
 have hL : L.flatten.length = ps.length * 2 := by rw [CT 2 L hL2]; omega
 have e0 : (((L ++ [[v, v']]).flatten ++ rest).set (0 + ps.length * 2 + 0) u).set (0 + ps.length * 2 + 1) u' = (L ++ [[u, u']]).flatten ++ rest := by
  simp only [List.flatten_append, List.flatten_cons, List.flatten_nil, List.append_nil, List.append_assoc]
  rw [List.set_append_right _ _ (by omega), List.set_append_right _ _ (by omega), show 0 + ps.length * 2 + 0 - L.flatten.length = 0 by omega, show 0 + ps.length * 2 + 1 - L.flatten.length = 1 by omega]
  rfl
 have hg : ∀ b, okf b ∨ okg b → b ∉ [g] := fun b hb hm => by
  have := h.lo b hb; have := h.ge; simp at hm; omega
 refine ⟨h.ge, by rw [← e0]; exact hb, ?_, h.mx, fun c hc => ?_, by simp; omega, fun i c p hc hp => ?_, h.lo⟩
 ·have := h.len
  simp only [List.flatten_append, List.flatten_cons, List.flatten_nil, List.append_nil, List.length_append, List.length_cons, List.length_nil] at this ⊢
  exact this
 ·rcases List.mem_append.1 hc with hc | hc
  ·exact hL2 c hc
  ·simp at hc; subst hc; rfl
 ·by_cases hi : i < L.length
  ·rw [List.getElem?_append_left hi] at hc
   rw [List.getElem?_append_left (by omega)] at hp
   exact (h.rows i c p (by rw [List.getElem?_append_left hi]; exact hc) (by rw [List.getElem?_append_left (by omega)]; exact hp)).keep k (fun b hb => hg b (.inl hb)) fun b hb => hg b (.inr hb)
  ·have hi2 := (List.getElem?_eq_some_iff.1 hc).1
   simp at hi2
   have : i = L.length := by omega
   subst this
   simp at hc
   have hp' : (ps ++ [(l', m')])[ps.length]? = some p := by rw [show ps.length = L.length by omega]; exact hp
   simp at hp'
   subst hc; subst hp'
   exact ⟨u, u', rfl, h1, h2, hlm⟩
theorem CS.push {g' cap' : Nat} {e' : TypeId} {cur' : Array Value} {u u' : Value} {l' m' : List Fml} (h : CS okf okg C W g cap e L rest ps) (hC : C ≤ W.heap.size) (hg : g' = g ∨ g' = W.heap.size) (hb : W'.heap[g']? = some (.cells cur' e' (0, 0))) (hs : cur'.size = cap' * 2) (hm : cap' ≤ maxLen)
  (ht : cur'.toList.take ((ps.length + 1) * 2) = (L.flatten ++ rest).take (ps.length * 2) ++ [u, u']) (k : Keep [g] W W') (h1 : FL okf W' u l') (h2 : FL okg W' u' m') (hlm : l'.length = m'.length) : CS okf okg C W' g' cap' e' (L ++ [[u, u']]) (cur'.toList.drop ((ps.length + 1) * 2)) (ps ++ [(l', m')]) := by
 have hll := h.ll
 have hge := h.ge
 have hno : ∀ b, okf b ∨ okg b → b ∉ [g] := fun b hb hm => by
  have := h.lo b hb; simp at hm; omega
 have e1 : (L.flatten ++ rest).take (ps.length * 2) = L.flatten := by rw [← h.flat]; exact List.take_left
 have e2 : (L ++ [[u, u']]).flatten ++ cur'.toList.drop ((ps.length + 1) * 2) = cur'.toList := by
  rw [e1] at ht
  simp only [List.flatten_append, List.flatten_cons, List.flatten_nil, List.append_nil]
  rw [← ht, List.take_append_drop]
 refine ⟨by rcases hg with rfl | rfl <;> omega, ?_, by rw [e2]; simpa using hs, hm, fun c hc => ?_, by simp; omega, fun i c p hc hp => ?_, h.lo⟩
 ·rw [e2]
  show W'.heap[g']? = _
  rw [hb]
 ·rcases List.mem_append.1 hc with hc | hc
  ·exact h.two c hc
  ·simp at hc; subst hc; rfl
 ·by_cases hi : i < L.length
  ·rw [List.getElem?_append_left hi] at hc
   rw [List.getElem?_append_left (by omega)] at hp
   exact (h.rows i c p hc hp).keep k (fun b hb => hno b (.inl hb)) fun b hb => hno b (.inr hb)
  ·have hi2 := (List.getElem?_eq_some_iff.1 hc).1
   simp at hi2
   have : i = L.length := by omega
   subst this
   have hp' : (ps ++ [(l', m')])[ps.length]? = some p := by rw [show ps.length = L.length by omega]; exact hp
   simp at hp' hc
   subst hc; subst hp'
   exact ⟨u, u', rfl, h1, h2, hlm⟩
end
end Go.Proofs.YtkhhjdjmhbdjfaaGreatDoor
