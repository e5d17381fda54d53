/- The order of formulas: Compare walked. A signal found by its name. Signals held valid. The weights of signals, the number of letters, the value of a signal in a letter. Kernels stay kernels, plain: bare, small and known, after a letter and in canonical form. Kernels stay small and known, plain. Signals and letters, plain; the past nodes in a list, a memory as a number. Finding a formula in a list: past.find. Past, layered, valid formulas; kernels and loose kernels. Conditions: none. -/
import Derived.Test.YtkhhjdjmhbdjfaaGreatDoorQT5

namespace Go.Proofs.YtkhhjdjmhbdjfaaGreatDoor
open Go.RowKit
set_option linter.unusedVariables false
variable {mk : Prop} [MK mk]
theorem cmpL_cons0 {x y : Fml} {l m : List Fml} (h : BV x y = 0) : cmpL (x :: l) (y :: m) = cmpL l m := by rw [cmpL, B8 h]
theorem C6 (a b c : Int) : Bn (Bn a b) c = Bn a (Bn b c) := by
 unfold Bn
 by_cases h : a = 0
 ·rw [if_pos h, if_pos h]
 ·rw [if_neg h, if_neg h, if_neg h]
structure CI (w : World) (okf okg : Nat → Prop) (N : Nat) (r : Int) (x : Nat × Nat × List PP) (W : World) : Prop where
 cs : ∃ e L rest, CS okf okg w.heap.size W x.1 x.2.1 e L rest x.2.2
 ext : Ext w W
 res : r = cmpSt x.2.2.reverse
 wt : wtSt x.2.2 ≤ N
theorem PF.op {ok : Nat → Prop} {w : World} {b o : Nat} {f : Fml} (h : PF ok w b o f) : w.cell? ⟨b, o + 0, none⟩ = some (.int .i64 f.op) := by
 obtain ⟨_, a, c, L, hc, _⟩ := h.form
 exact hc 0 _ rfl
theorem CR (ps : List PP) (p : PP) : cmpSt (ps ++ [p]).reverse = Bn (cmpL p.1 p.2) (cmpSt ps.reverse) := by simp [cmpSt]
theorem cell_same {w W V : World} {b o : Nat} {v : Value} (k : Ext w W) (k' : Ext w V) (hb : b < w.heap.size) (h : W.cell? ⟨b, o, none⟩ = some v) : V.cell? ⟨b, o, none⟩ = some v := by
 have e1 := k.block b hb (by simp)
 have e2 := k'.block b hb (by simp)
 unfold World.cell? at h ⊢
 rw [e2, ← e1]
 exact h
set_option maxHeartbeats 6400000 in
theorem fcompare_ok (w : World) (v v' : Value) (f g : Fml) (okf okg : Nat → Prop) (hf : FAt okf w v f) (hg : FAt okg w v' g) (hu : (∀ b, okf b → Unm w b) ∨ (∀ b, okg b → Unm w b)) (hz : szF f ≤ 1000000) :
  Fn Tryz.prog 59 [v, v'] w fun r w' => r = .int .i64 (BV f g) ∧ Ext w w' := by
 obtain ⟨av, rfl, Lf, hSf, hFf⟩ := hf.form
 obtain ⟨bv, rfl, Lg, hSg, hFg⟩ := hg.form
 obtain ⟨a, c, rfl, _⟩ := id hSf
 obtain ⟨a', c', rfl, _⟩ := id hSg
 have hSf' := hSf.lt (flatten_ne hFf.1 hFf.2.1)
 have hSg' := hSg.lt (flatten_ne hFg.1 hFg.2.1)
 have hlf := hf.lt
 have hlg := hg.lt
 refine AR Tryz.func59 rfl Tryz.ntmps59 (Nat.le_of_ble_eq_true rfl) (by kernel_rfl) ?_
 repeat refine nx rfl ?_
 (refine AA ?_; refine A5 (L := fcC f (.slice a f.args.length c)) rfl (fun w1 n1 => ?_))
 refine A5 (L := fcC g (.slice a' g.args.length c')) rfl (fun w2 n2 => ?_)
 have b1 := n1.blk.keep n2.keep (by simp)
 have b2 := n2.blk
 have z1 := n1.size
 have z2 := n2.size
 have k2 : Ext w w2 := n1.keep.trans n2.keep
 refine AC (AG rfl ?_)
 repeat refine nx rfl ?_
 have pf : PF As w2 w.heap.size 0 f := ⟨trivial, fcC f _, rfl, b1.cells, ((hf.ext k2).mono fun _ _ => trivial)⟩
 have pg : PF As w2 w1.heap.size 0 g := ⟨trivial, fcC g _, rfl, b2.cells, ((hg.ext k2).mono fun _ _ => trivial)⟩
 refine AA ?_
 refine AQ (cmpNodes_ok w2 _ _ _ _ f g pf pg) rfl ?_
 rintro _ w3 ⟨rfl, k3⟩
 refine AC (AG rfl ?_)
 repeat refine nx rfl ?_
 have e4 : w3.cell? ⟨w.heap.size, 0 + 4, none⟩ = some (.slice a f.args.length c) := (b1.keep k3 (by simp)).cell rfl
 have e4' : w3.cell? ⟨w1.heap.size, 0 + 4, none⟩ = some (.slice a' g.args.length c') := (b2.keep k3 (by simp)).cell rfl
 have k03 : Ext w w3 := k2.trans k3
 generalize hcn : cmpN f g = cn
 have hsp := cmpF_split f g
 rw [hcn] at hsp
 by_cases hne : cn = 0
 rotate_left
 ·(refine AA (AG rfl ?_) <;> (refine W_neq rfl rfl (fun hc => ?_) (fun hc => ?_) <;> try omega) <;> refine AB rfl (AL rfl (AL rfl (AL rfl (AL rfl (AK rfl (AB rfl ?_)))))))
  repeat refine nx rfl ?_
  refine AA (AG rfl (AC (AG rfl ?_)))
  repeat refine nx rfl ?_
  exact AI rfl ⟨congrArg (Value.int .i64) (by rw [hsp, thenI_ne hne]), k03⟩
 rw [B8 hne] at hsp
 by_cases h0 : f.args.length = 0
 ·(refine AA (AG rfl ?_) <;> (refine W_neq rfl rfl (fun hc => ?_) (fun hc => ?_) <;> try omega) <;> refine AB rfl (AE rfl (AD rfl (AE rfl (AF rfl (by assumption) ?_)))) <;> refine AE rfl (AZ rfl ?_) <;> (refine AE rfl ?_; (refine CC rfl rfl (fun hc => ?_) (fun hc => ?_) <;> try omega)) <;> refine AJ rfl (AB rfl ?_))
  repeat refine nx rfl ?_
  refine AA (AG rfl (AC (AG rfl ?_)))
  repeat refine nx rfl ?_
  refine AI rfl ⟨congrArg (Value.int .i64) ?_, k03⟩
  rw [hsp, List.length_eq_zero_iff.1 h0, hne]
  cases g.args <;> rfl
 (refine AA (AG rfl ?_) <;> (refine W_neq rfl rfl (fun hc => ?_) (fun hc => ?_) <;> try omega) <;> refine AB rfl (AE rfl (AD rfl (AE rfl (AF rfl (by assumption) ?_)))) <;> refine AE rfl (AZ rfl ?_) <;> (refine AE rfl ?_; (refine CC rfl rfl (fun hc => ?_) (fun hc => ?_) <;> try omega)) <;> refine AJ rfl (AB rfl ?_))
 repeat first | refine nx rfl ?_ | refine nf rfl ?_
 have hlen : f.args.length = g.args.length := by
  unfold cmpN at hcn
  rw [hne] at hcn
  simp only [thenI_zero, cmpI_zero] at hcn
  omega
 refine AA ?_
 refine Ar (fun w4 n4 => ?_)
 repeat refine nx rfl ?_
 have z4 := n4.size
 have z3 := k3.size
 have k04 := k03.trans n4.keep
 have FLf : ∀ W, Ext w W → FL (fun b => okf b ∧ b < w.heap.size) W (.slice a f.args.length c) f.args := fun W k => ⟨a, c, Lf, rfl, hSf'.ext k, (FsAt.lt hFf).keep k (by simp)⟩
 have FLg : ∀ W, Ext w W → FL (fun b => okg b ∧ b < w.heap.size) W (.slice a' g.args.length c') g.args := fun W k => ⟨a', c', Lg, rfl, hSg'.ext k, (FsAt.lt hFg).keep k (by simp)⟩
 have hUm : (∀ W, Ext w W → ∀ b, okf b ∧ b < w.heap.size → Unm W b) ∨ (∀ W, Ext w W → ∀ b, okg b ∧ b < w.heap.size → Unm W b) := by
  rcases hu with hu | hu
  ·exact .inl fun W k b hb => (hu b hb.1).eq (k.block b hb.2 (by simp))
  ·exact .inr fun W k b hb => (hu b hb.1).eq (k.block b hb.2 (by simp))
 clear hlf hlg hSf' hSg' pf pg
 refine Ad (.read 0 (.read 1 (.read 2 (.read 3 (.read 4 (.read 5 (.alt 6 (.alt 7 (.read 8 .done) .stop) .stop))))))) Ax (by kernel_rfl) (fun wd kd ed => ⟨Ext w3, ?_, ?_⟩)
 ·exact n4.keep.trans kd
 have qa : ∀ W, Ext w3 W → W.cell? ⟨w.heap.size, 0 + 4, none⟩ = some (.slice a f.args.length c) := fun W e => e.cell e4 (by simp)
 have qb : ∀ W, Ext w3 W → W.cell? ⟨w1.heap.size, 0 + 4, none⟩ = some (.slice a' g.args.length c') := fun W e => e.cell e4' (by simp)
 (apply D_R rfl rfl; (intro W hW; (refine W_slice_arr_h rfl rfl (by omega) (by omega) ?_); exact AO ⟨rfl, rfl, rfl⟩))
 (refine D_R rfl rfl (fun W hW => AD rfl Z3) (D_R rfl rfl (fun W hW => AF rfl (qa W hW) Z3) (D_R rfl rfl (fun W hW => AD rfl Z3) (D_R rfl rfl (fun W hW => AF rfl (qb W hW) Z3) ?_))) <;> (apply D_R rfl rfl; (intro W hW; refine BE (by rfl) (by rfl) ?_; exact Z3)))
 refine D_E rfl ?_
 refine Ab (out := [.slice a f.args.length c, .slice a' g.args.length c']) rfl (by omega) (by kernel_rfl) (fun w5 n5 => ?_)
 have z5 := n5.size
 have zd := kd.size
 refine AO ⟨Ext w3, fun _ e => e, (n4.keep.trans kd).trans n5.keep, ?_⟩
 have b5 := (n4.blk.keep kd (by simp)).keep n5.keep (by simp)
 have k45 := (n4.keep.trans kd).trans n5.keep
 refine D_E rfl ?_
 refine W_append1 (size := 2) (n := 0) (cap := 8) (g := w3.heap.size) (sv := .slice (some ⟨wd.heap.size, 0, none⟩) 1 1) (ok := As) (cs := [.slice a f.args.length c, .slice a' g.args.length c']) rfl rfl b5 (by rfl) (by omega) (by decide)
  ⟨_, _, rfl, by omega, by omega, (fun h => by cases h), .inr ⟨_, _, rfl, trivial, n5.blk.cells⟩⟩ (by decide) rfl rfl (by intro u hu; simp at hu; rcases hu with rfl | rfl <;> rfl) (by omega) (by omega) (fun g' cap' e' cur' w6 hg' hb' hs' hle' hm' ht' k6 => ?_)
 have c0 : CS (fun b => okf b ∧ b < w.heap.size) (fun b => okg b ∧ b < w.heap.size) w.heap.size w5 w3.heap.size 8 _ [] _ [] := ⟨by omega, b5, rfl, by decide, (fun c hc => by cases hc), rfl, (fun i c p hc => by simp at hc), fun b hb => by rcases hb with hb | hb <;> exact hb.2⟩
 have k46 : Ext w3 w6 := k45.keep k6 (by simp)
 have c6 := c0.push (by omega) hg' hb' hs' hm' ht' k6 (FLf w6 (k03.trans k46)) (FLg w6 (k03.trans k46)) hlen
 refine AO ⟨Ext w3, fun _ e => e, k46, ?_⟩
 refine D_R rfl rfl (fun W hW => AC (AM rfl Z3)) (Ah ?_)
 repeat refine nx rfl ?_
 have hsz := BW f
 refine A3 (α := Nat × Nat × List PP) (fun x => [(7, .slice (some ⟨x.1, 0, none⟩) x.2.2.length x.2.1)]) (CI w (fun b => okf b ∧ b < w.heap.size) (fun b => okg b ∧ b < w.heap.size) 2000001 (BV f g)) (fun x => wtSt x.2.2) (g', cap', [(f.args, g.args)]) ⟨rfl, trivial⟩
  ⟨⟨_, _, _, c6⟩, k03.trans k46, by rw [hsp]; simp [cmpSt, Bn], by simp [wtSt]; omega⟩ ?_
 clear c6 c0 k46 k45 hb' ht' k6 FLf FLg b5 n5 n4 hc qa qb e4 e4' kd
 rintro ⟨gb, cap, ps⟩ W f3 hI
 obtain ⟨⟨e, L, rest, hcs⟩, kW, hres, hwt⟩ := hI
 simp only at hcs hres hwt ⊢
 repeat refine nx rfl ?_
 by_cases hp0 : ps.length = 0
 ·have e0 : ps = [] := List.length_eq_zero_iff.1 hp0
  subst e0
  (refine AA (AM rfl (AZ rfl ?_)) <;> (refine W_gtr rfl rfl (fun hc => ?_) (fun hc => ?_) <;> try omega))
  repeat first | refine nx rfl ?_ | refine nf rfl ?_
  refine AA (AC (AG rfl ?_))
  repeat refine nx rfl ?_
  exact AI rfl ⟨congrArg (Value.int .i64) (by rw [hres]; rfl), kW⟩
 obtain ⟨L', ps', v, v', l, m, rfl, rfl, hl, hm, hlm⟩ := hcs.split (by omega)
 obtain ⟨x0, x1, hlt⟩ := hcs.cells
 have hle := hcs.le
 have hlo := hcs.lo
 have hge := hcs.ge
 have hno : ∀ b, (okf b ∧ b < w.heap.size) ∨ (okg b ∧ b < w.heap.size) → b ∉ [gb] := fun b hb hm => by
  have := hlo b hb; simp at hm; omega
 have hlen' := wtSt_len ps'
 rw [CR] at hres
 rw [BJ] at hwt
 simp only [List.length_append, List.length_singleton] at hle ⊢
 simp only at hres hwt
 clear hp0
 (refine AA (AM rfl (AZ rfl ?_)) <;> (refine W_gtr rfl rfl (fun hc => ?_) (fun hc => ?_) <;> try omega))
 repeat refine nx rfl ?_
 refine AA (AM rfl (AM rfl (AZ rfl (Cy rfl rfl (by first | exact AV (by omega) (by omega) | exact AY (by omega) (by omega) | exact AW (by omega) (by omega)) ?_))))
 refine Au (k := ps'.length) rfl rfl (by omega) (by omega) ?_
 refine AC (AP rfl ?_)
 repeat refine nx rfl ?_
 cases l with
 | nil =>
  obtain ⟨a0, c0, rfl⟩ := hl.form
  have hl0 : ([] : List Fml).length = 0 := rfl
  (refine AA (AP rfl (AH rfl (AD rfl (AF rfl (by assumption) ?_)))) <;> refine AZ rfl ?_ <;> (refine CC rfl rfl (fun hc => ?_) (fun hc => ?_) <;> try omega))
  repeat refine nx rfl ?_
  refine AA (AM rfl (AM rfl (AZ rfl (Cy rfl rfl (by first | exact AV (by omega) (by omega) | exact AY (by omega) (by omega) | exact AW (by omega) (by omega)) ?_))))
  refine W_slice_h rfl rfl (by omega) (by omega) ?_
  rw [show ((((ps'.length + 1 : Nat) : Int) - 1).toNat) = ps'.length by omega]
  refine AC (AM rfl ?_)
  repeat refine nx rfl ?_
  refine ⟨(gb, cap, ps'), ⟨rfl, ⟨rfl, trivial⟩, ⟨⟨_, _, _, hcs.cut⟩, kW, ?_, by simp only; omega⟩⟩, by simp only; rw [BJ]; omega⟩
  simp only
  rw [hres]
  rfl
 | cons x l =>
  cases m with
  | nil => simp at hlm
  | cons y m =>
   obtain ⟨bx, ox, cx, rfl, hcx, hx, tx⟩ := hl.cons
   obtain ⟨by', oy, cy, rfl, hcy, hy, ty⟩ := hm.cons
   have hlm' : l.length = m.length := by simpa using hlm
   have hsx := BW x
   simp only [szL] at hwt
   (refine AA (AP rfl (AH rfl (AD rfl (AF rfl (by assumption) ?_)))) <;> refine AZ rfl ?_ <;> (refine CC rfl rfl (fun hc => ?_) (fun hc => ?_) <;> try omega))
   repeat first | refine nx rfl ?_ | refine nf rfl ?_
   refine Ad (.read 0 (.read 1 (.read 2 (.read 3 (.read 4 (.read 5 (.read 6 (.read 7 (.read 8 (.read 9 (.read 10 (.read 11 .done)))))))))))) Ax (by kernel_rfl) (fun wd kd ed => ⟨Ext wd, ?_, ?_⟩)
   ·exact Ext.refl _
   have qx0 : ∀ V, Ext wd V → V.cell? ⟨gb, 0 + ps'.length * 2 + 0, none⟩ = some (.slice (some ⟨bx, ox, none⟩) (l.length + 1) cx) := fun V e => (kd.trans e).cell x0 (by simp)
   have qx1 : ∀ V, Ext wd V → V.cell? ⟨gb, 0 + ps'.length * 2 + 1, none⟩ = some (.slice (some ⟨by', oy, none⟩) (m.length + 1) cy) := fun V e => (kd.trans e).cell x1 (by simp)
   refine D_R rfl rfl (fun W hW => AP rfl Z3) (D_R rfl rfl (fun W hW => AH rfl Z3) (D_R rfl rfl (fun W hW => AD rfl Z3) (D_R rfl rfl (fun W hW => AF rfl (qx0 W hW) Z3) ?_)))
   (apply D_R rfl rfl; (intro W hW; refine Au (k := 0) rfl rfl rfl (by omega) ?_; exact AO ⟨rfl, rfl, rfl⟩))
   refine D_R rfl rfl (fun W hW => AP rfl Z3) (D_R rfl rfl (fun W hW => AH rfl Z3) (D_R rfl rfl (fun W hW => AD rfl Z3) (D_R rfl rfl (fun W hW => AF rfl (qx1 W hW) Z3) ?_)))
   (apply D_R rfl rfl; (intro W hW; refine Au (k := 0) rfl rfl rfl (by omega) ?_; exact AO ⟨rfl, rfl, rfl⟩))
   refine D_R rfl rfl (fun W hW => AC (AP rfl Z3)) (D_R rfl rfl (fun W hW => AC (AP rfl Z3)) (Ah ?_))
   repeat refine nx rfl ?_
   have kA := kd
   clear kd qx0 qx1
   refine Ad (.read 0 (.read 1 (.read 2 (.read 3 (.read 4 (.read 7 (.read 8 (.read 9 (.alt 5 (.read 6 (.alt 10 (.read 11 (.read 12 (.read 13 (.alt 14 (.read 15 (.read 16 (.alt 17 .done .stop))) .stop)))) .stop)) (.alt 10 (.read 11 (.alt 5 (.read 6 (.read 12 (.read 13 (.alt 14 (.read 15 (.read 16 (.alt 17 .done .stop))) .stop)))) .stop)) .stop)))))))))) Ax (by kernel_rfl) (fun wd kd ed => ⟨fun _ => True, ?_, ?_⟩)
   ·trivial
   have kAD := kA.trans kd
   have kD : Keep [gb] W wd := kAD.any
   have bd := hcs.blk.keep kAD (by simp)
   have y0 := kAD.cell x0 (by simp)
   have y1 := kAD.cell x1 (by simp)
   refine D_R rfl rfl (fun W hW => AP rfl Z3) (D_R rfl rfl (fun W hW => AP rfl Z3) (D_R rfl rfl (fun W hW => AP rfl Z3) (D_R rfl rfl (fun W hW => AH rfl Z3) (D_R rfl rfl (fun W hW => AD rfl Z3) (D_R rfl rfl (fun W hW => AP rfl Z3) (D_R rfl rfl (fun W hW => AH rfl Z3) (D_R rfl rfl (fun W hW => AD rfl Z3) ?_)))))))
   refine D_A rfl ?_ (D_E rfl ?_)
   ·refine AF rfl y0 ?_
    refine AO ⟨_, fun _ h => h, trivial, ?_⟩
    ((apply D_R rfl rfl; (intro W hW; refine W_slice_l rfl rfl (by omega) (by omega) ?_; exact AO ⟨rfl, rfl, rfl⟩)))
    refine D_E rfl ?_
    refine AF rfl y1 ?_
    refine AO ⟨_, fun _ h => h, trivial, ?_⟩
    refine D_R rfl rfl (fun W hW => W_slice_l rfl rfl (by omega) (by omega) Z3) (D_R rfl rfl (fun W hW => AH rfl Z3) (D_R rfl rfl (fun W hW => AD rfl Z3) ?_))
    refine D_E rfl ?_
    refine Aa rfl rfl rfl bd (by omega) (fun wA pA => ?_)
    refine AO ⟨_, fun _ h => h, trivial, ?_⟩
    refine D_R rfl rfl (fun W hW => AH rfl Z3) (D_R rfl rfl (fun W hW => AD rfl Z3) ?_)
    refine D_E rfl ?_
    refine Aa rfl rfl rfl pA.blk (by rw [List.length_set]; omega) (fun wB pB => ?_)
    refine AO ⟨_, fun _ h => h, trivial, ?_⟩
    refine Ah ?_
    repeat refine nx rfl ?_
    have kB : Keep [gb] W wB := (kD.trans pA.keep (by simp)).trans pB.keep (by simp)
    have hB := hcs.put kB pB.blk (tx.keep kB fun b hb hm => hno b (.inl hb) hm) (ty.keep kB fun b hb hm => hno b (.inr hb) hm) hlm'
    have kWB : Ext w wB := kW.keep kB (by simp; exact hcs.ge)
    have px := hx.keep kB fun b hb hm => hno b (.inl hb) hm
    have py := hy.keep kB fun b hb hm => hno b (.inr hb) hm
    obtain ⟨ca, ta, fa, ha1, ha2, _⟩ := cell_blk px.op
    obtain ⟨cb, tb, fb, hb1, hb2, _⟩ := cell_blk py.op
    have huv : fa = (0, 0) ∨ fb = (0, 0) := by
     rcases hUm with hU | hU
     ·obtain ⟨c1, t1, h1, _⟩ := unm_blk (hU wB kWB bx px.1) px.op
      rw [ha1] at h1; cases h1; exact .inl rfl
     ·obtain ⟨c1, t1, h1, _⟩ := unm_blk (hU wB kWB by' py.1) py.op
      rw [hb1] at h1; cases h1; exact .inr rfl
    refine AA (AP rfl (AP rfl ?_))
    refine W_ptrEq (a := ⟨bx, ox + 0 * 5, none⟩) (b := ⟨by', oy + 0 * 5, none⟩) rfl rfl ha1 hb1 huv ha2 hb2 ?_
    refine AO ?_
    by_cases hab : (⟨bx, ox + 0 * 5, none⟩ : Addr) = ⟨by', oy + 0 * 5, none⟩
    ·rw [decide_eq_true hab]
     repeat refine nx rfl ?_
     obtain ⟨rfl, rfl⟩ : bx = by' ∧ ox = oy := by
      have := Addr.mk.inj hab
      exact ⟨this.1, by have := this.2.1; omega⟩
     have hxy := px.uniq py
     refine ⟨(gb, cap, ps' ++ [(l, m)]), ⟨rfl, ⟨congrArg (fun n => Value.slice (some ⟨gb, 0, none⟩) n cap) (by simp), trivial⟩, ⟨⟨_, _, _, hB⟩, kWB, ?_, by simp only; rw [BJ]; simp only; omega⟩⟩, by simp only; rw [BJ, BJ]; simp only [szL]; omega⟩
     simp only
     rw [CR, hres, cmpL_cons0 ((Bt x y).2 hxy)]
    ·rw [decide_eq_false hab]
     repeat first | refine nx rfl ?_ | refine nf rfl ?_
     refine AA (AP rfl (AP rfl ?_))
     refine AQ (cmpNodes_ok wB bx _ by' _ x y (px.mono fun _ _ => trivial) (py.mono fun _ _ => trivial)) rfl ?_
     rintro _ wC ⟨rfl, kC⟩
     refine AC (AG rfl ?_)
     repeat refine nx rfl ?_
     have kWC := kWB.trans kC
     have hC := hB.ext kC
     have pxC := px.keep kC (by simp)
     have pyC := py.keep kC (by simp)
     generalize hcn2 : cmpN x y = cn2
     have hs2 := cmpF_split x y
     rw [hcn2] at hs2
     by_cases hn2 : cn2 = 0
     rotate_left
     ·(refine AA (AG rfl ?_) <;> (refine W_neq rfl rfl (fun hc => ?_) (fun hc => ?_) <;> try omega))
      repeat refine nx rfl ?_
      refine AA (AG rfl (AC (AG rfl ?_)))
      repeat refine nx rfl ?_
      exact AI rfl ⟨congrArg (Value.int .i64) (by rw [hres, cmpL, hs2, C6, C6, thenI_ne hn2]), kWC⟩
     rw [B8 hn2] at hs2
     have hlxy : x.args.length = y.args.length := by
      unfold cmpN at hcn2
      rw [hn2] at hcn2
      simp only [thenI_zero, cmpI_zero] at hcn2
      omega
     (refine AA (AG rfl ?_) <;> (refine W_neq rfl rfl (fun hc => ?_) (fun hc => ?_) <;> try omega))
     repeat first | refine nx rfl ?_ | refine nf rfl ?_
     obtain ⟨vx, cvx, fvx⟩ := pxC.args
     obtain ⟨vy, cvy, fvy⟩ := pyC.args
     obtain ⟨ax, cxx, rfl⟩ := fvx.form
     obtain ⟨ay, cyy, rfl⟩ := fvy.form
     have cvx' : wC.cell? ⟨bx, ox + 0 * 5 + 4, none⟩ = some (.slice ax x.args.length cxx) := cvx
     have cvy' : wC.cell? ⟨by', oy + 0 * 5 + 4, none⟩ = some (.slice ay y.args.length cyy) := cvy
     by_cases hax : 0 < x.args.length
     ·(refine AA (AP rfl (AH rfl (AD rfl (AF rfl (by assumption) ?_)))) <;> refine AZ rfl ?_ <;> (refine W_gtr rfl rfl (fun hc => ?_) (fun hc => ?_) <;> try omega))
      repeat refine nx rfl ?_
      refine Ad (.read 0 (.read 1 (.read 2 (.read 3 (.read 4 (.read 5 (.read 6 (.read 7 (.read 8 (.read 9 (.alt 10 (.alt 11 (.read 12 .done) .stop) .stop))))))))))) Ax (by kernel_rfl) (fun wd kd ed => ⟨Ext w, ?_, ?_⟩)
      ·exact kWC.trans kd
      have qp : ∀ V, Ext w V → V.cell? ⟨bx, ox + 0 * 5 + 4, none⟩ = some (.slice ax x.args.length cxx) := fun V e => cell_same kWC e px.1.2 cvx'
      have qq : ∀ V, Ext w V → V.cell? ⟨by', oy + 0 * 5 + 4, none⟩ = some (.slice ay y.args.length cyy) := fun V e => cell_same kWC e py.1.2 cvy'
      (refine D_R rfl rfl (fun W hW => AM rfl Z3) (D_R rfl rfl (fun W hW => AP rfl Z3) (D_R rfl rfl (fun W hW => AH rfl Z3) (D_R rfl rfl (fun W hW => AD rfl Z3) (D_R rfl rfl (fun W hW => AF rfl (qp W hW) Z3) (D_R rfl rfl (fun W hW => AP rfl Z3) (D_R rfl rfl (fun W hW => AH rfl Z3) (D_R rfl rfl (fun W hW => AD rfl Z3) (D_R rfl rfl (fun W hW => AF rfl (qq W hW) Z3) ?_)))))))) <;> (apply D_R rfl rfl; (intro W hW; refine BE (by rfl) (by rfl) ?_; exact Z3)))
      refine D_E rfl ?_
      refine Ab (out := [.slice ax x.args.length cxx, .slice ay y.args.length cyy]) rfl (by omega) (by kernel_rfl) (fun wE nE => ?_)
      have kCE := kd.trans nE.keep
      have kWE := kWC.trans kCE
      have hE := hC.ext kCE
      refine AO ⟨Ext w, fun _ e => e, kWE, ?_⟩
      have hps : (ps' ++ [(l, m)]).length = ps'.length + 1 := by simp
      refine D_E rfl ?_
      refine W_append1 (size := 2) (n := ps'.length + 1) (cap := cap) (g := gb) (sv := .slice (some ⟨wd.heap.size, 0, none⟩) 1 1) (ok := As) (cs := [.slice ax x.args.length cxx, .slice ay y.args.length cyy]) rfl rfl hE.blk (by rw [List.size_toArray]; exact hE.len) (by omega) hE.mx
       ⟨_, _, rfl, by omega, by omega, (fun h => by cases h), .inr ⟨_, _, rfl, trivial, nE.blk.cells⟩⟩ (by decide) rfl rfl (by intro u hu; simp at hu; rcases hu with rfl | rfl <;> rfl) (by omega) (by omega) (fun g2 cap2 e2 cur2 wF hg2 hb2' hs2' hle2 hm2 ht2 kF => ?_)
      have hF := hE.push kWE.size hg2 hb2' hs2' hm2 (by rw [hps]; simpa using ht2) kF (fvx.keep (kCE.any.trans kF (by simp)) fun b hb hm => hno b (.inl hb) hm) (fvy.keep (kCE.any.trans kF (by simp)) fun b hb hm => hno b (.inr hb) hm) hlxy
      have kWF := kWE.keep kF (by simp; exact hge)
      refine AO ⟨Ext w, fun _ e => e, kWF, ?_⟩
      refine D_R rfl rfl (fun W hW => AC (AM rfl Z3)) (Ah ?_)
      repeat refine nx rfl ?_
      refine ⟨(g2, cap2, ps' ++ [(l, m)] ++ [(x.args, y.args)]), ⟨rfl, ⟨congrArg (fun n => Value.slice (some ⟨g2, 0, none⟩) n cap2) (by simp), trivial⟩, ⟨⟨_, _, _, hF⟩, kWF, ?_, by simp only; rw [BJ, BJ]; simp only; omega⟩⟩, by simp only; rw [BJ, BJ, BJ]; simp only [szL]; omega⟩
      simp only
      rw [CR, CR, hres, cmpL, hs2, C6]
     ·(refine AA (AP rfl (AH rfl (AD rfl (AF rfl (by assumption) ?_)))) <;> refine AZ rfl ?_ <;> (refine W_gtr rfl rfl (fun hc => ?_) (fun hc => ?_) <;> try omega))
      repeat first | refine nx rfl ?_ | refine nf rfl ?_
      have ex : x.args = [] := List.length_eq_zero_iff.1 (by omega)
      have ez : BV x y = 0 := by rw [hs2, ex]; cases y.args <;> rfl
      refine ⟨(gb, cap, ps' ++ [(l, m)]), ⟨rfl, ⟨congrArg (fun n => Value.slice (some ⟨gb, 0, none⟩) n cap) (by simp), trivial⟩, ⟨⟨_, _, _, hC⟩, kWC, ?_, by simp only; rw [BJ]; simp only; omega⟩⟩, by simp only; rw [BJ, BJ]; simp only [szL]; omega⟩
      simp only
      rw [CR, hres, cmpL_cons0 ez]
   ·refine AF rfl y1 ?_
    refine AO ⟨_, fun _ h => h, trivial, ?_⟩
    ((apply D_R rfl rfl; (intro W hW; refine W_slice_l rfl rfl (by omega) (by omega) ?_; exact AO ⟨rfl, rfl, rfl⟩)))
    refine D_E rfl ?_
    refine AF rfl y0 ?_
    refine AO ⟨_, fun _ h => h, trivial, ?_⟩
    refine D_R rfl rfl (fun W hW => W_slice_l rfl rfl (by omega) (by omega) Z3) (D_R rfl rfl (fun W hW => AH rfl Z3) (D_R rfl rfl (fun W hW => AD rfl Z3) ?_))
    refine D_E rfl ?_
    refine Aa rfl rfl rfl bd (by omega) (fun wA pA => ?_)
    refine AO ⟨_, fun _ h => h, trivial, ?_⟩
    refine D_R rfl rfl (fun W hW => AH rfl Z3) (D_R rfl rfl (fun W hW => AD rfl Z3) ?_)
    refine D_E rfl ?_
    refine Aa rfl rfl rfl pA.blk (by rw [List.length_set]; omega) (fun wB pB => ?_)
    refine AO ⟨_, fun _ h => h, trivial, ?_⟩
    refine Ah ?_
    repeat refine nx rfl ?_
    have kB : Keep [gb] W wB := (kD.trans pA.keep (by simp)).trans pB.keep (by simp)
    have hB := hcs.put kB pB.blk (tx.keep kB fun b hb hm => hno b (.inl hb) hm) (ty.keep kB fun b hb hm => hno b (.inr hb) hm) hlm'
    have kWB : Ext w wB := kW.keep kB (by simp; exact hcs.ge)
    have px := hx.keep kB fun b hb hm => hno b (.inl hb) hm
    have py := hy.keep kB fun b hb hm => hno b (.inr hb) hm
    obtain ⟨ca, ta, fa, ha1, ha2, _⟩ := cell_blk px.op
    obtain ⟨cb, tb, fb, hb1, hb2, _⟩ := cell_blk py.op
    have huv : fa = (0, 0) ∨ fb = (0, 0) := by
     rcases hUm with hU | hU
     ·obtain ⟨c1, t1, h1, _⟩ := unm_blk (hU wB kWB bx px.1) px.op
      rw [ha1] at h1; cases h1; exact .inl rfl
     ·obtain ⟨c1, t1, h1, _⟩ := unm_blk (hU wB kWB by' py.1) py.op
      rw [hb1] at h1; cases h1; exact .inr rfl
    refine AA (AP rfl (AP rfl ?_))
    refine W_ptrEq (a := ⟨bx, ox + 0 * 5, none⟩) (b := ⟨by', oy + 0 * 5, none⟩) rfl rfl ha1 hb1 huv ha2 hb2 ?_
    refine AO ?_
    by_cases hab : (⟨bx, ox + 0 * 5, none⟩ : Addr) = ⟨by', oy + 0 * 5, none⟩
    ·rw [decide_eq_true hab]
     repeat refine nx rfl ?_
     obtain ⟨rfl, rfl⟩ : bx = by' ∧ ox = oy := by
      have := Addr.mk.inj hab
      exact ⟨this.1, by have := this.2.1; omega⟩
     have hxy := px.uniq py
     refine ⟨(gb, cap, ps' ++ [(l, m)]), ⟨rfl, ⟨congrArg (fun n => Value.slice (some ⟨gb, 0, none⟩) n cap) (by simp), trivial⟩, ⟨⟨_, _, _, hB⟩, kWB, ?_, by simp only; rw [BJ]; simp only; omega⟩⟩, by simp only; rw [BJ, BJ]; simp only [szL]; omega⟩
     simp only
     rw [CR, hres, cmpL_cons0 ((Bt x y).2 hxy)]
    ·rw [decide_eq_false hab]
     repeat first | refine nx rfl ?_ | refine nf rfl ?_
     refine AA (AP rfl (AP rfl ?_))
     refine AQ (cmpNodes_ok wB bx _ by' _ x y (px.mono fun _ _ => trivial) (py.mono fun _ _ => trivial)) rfl ?_
     rintro _ wC ⟨rfl, kC⟩
     refine AC (AG rfl ?_)
     repeat refine nx rfl ?_
     have kWC := kWB.trans kC
     have hC := hB.ext kC
     have pxC := px.keep kC (by simp)
     have pyC := py.keep kC (by simp)
     generalize hcn2 : cmpN x y = cn2
     have hs2 := cmpF_split x y
     rw [hcn2] at hs2
     by_cases hn2 : cn2 = 0
     rotate_left
     ·(refine AA (AG rfl ?_) <;> (refine W_neq rfl rfl (fun hc => ?_) (fun hc => ?_) <;> try omega))
      repeat refine nx rfl ?_
      refine AA (AG rfl (AC (AG rfl ?_)))
      repeat refine nx rfl ?_
      exact AI rfl ⟨congrArg (Value.int .i64) (by rw [hres, cmpL, hs2, C6, C6, thenI_ne hn2]), kWC⟩
     rw [B8 hn2] at hs2
     have hlxy : x.args.length = y.args.length := by
      unfold cmpN at hcn2
      rw [hn2] at hcn2
      simp only [thenI_zero, cmpI_zero] at hcn2
      omega
     (refine AA (AG rfl ?_) <;> (refine W_neq rfl rfl (fun hc => ?_) (fun hc => ?_) <;> try omega))
     repeat first | refine nx rfl ?_ | refine nf rfl ?_
     obtain ⟨vx, cvx, fvx⟩ := pxC.args
     obtain ⟨vy, cvy, fvy⟩ := pyC.args
     obtain ⟨ax, cxx, rfl⟩ := fvx.form
     obtain ⟨ay, cyy, rfl⟩ := fvy.form
     have cvx' : wC.cell? ⟨bx, ox + 0 * 5 + 4, none⟩ = some (.slice ax x.args.length cxx) := cvx
     have cvy' : wC.cell? ⟨by', oy + 0 * 5 + 4, none⟩ = some (.slice ay y.args.length cyy) := cvy
     by_cases hax : 0 < x.args.length
     ·(refine AA (AP rfl (AH rfl (AD rfl (AF rfl (by assumption) ?_)))) <;> refine AZ rfl ?_ <;> (refine W_gtr rfl rfl (fun hc => ?_) (fun hc => ?_) <;> try omega))
      repeat refine nx rfl ?_
      refine Ad (.read 0 (.read 1 (.read 2 (.read 3 (.read 4 (.read 5 (.read 6 (.read 7 (.read 8 (.read 9 (.alt 10 (.alt 11 (.read 12 .done) .stop) .stop))))))))))) Ax (by kernel_rfl) (fun wd kd ed => ⟨Ext w, ?_, ?_⟩)
      ·exact kWC.trans kd
      have qp : ∀ V, Ext w V → V.cell? ⟨bx, ox + 0 * 5 + 4, none⟩ = some (.slice ax x.args.length cxx) := fun V e => cell_same kWC e px.1.2 cvx'
      have qq : ∀ V, Ext w V → V.cell? ⟨by', oy + 0 * 5 + 4, none⟩ = some (.slice ay y.args.length cyy) := fun V e => cell_same kWC e py.1.2 cvy'
      (refine D_R rfl rfl (fun W hW => AM rfl Z3) (D_R rfl rfl (fun W hW => AP rfl Z3) (D_R rfl rfl (fun W hW => AH rfl Z3) (D_R rfl rfl (fun W hW => AD rfl Z3) (D_R rfl rfl (fun W hW => AF rfl (qp W hW) Z3) (D_R rfl rfl (fun W hW => AP rfl Z3) (D_R rfl rfl (fun W hW => AH rfl Z3) (D_R rfl rfl (fun W hW => AD rfl Z3) (D_R rfl rfl (fun W hW => AF rfl (qq W hW) Z3) ?_)))))))) <;> (apply D_R rfl rfl; (intro W hW; refine BE (by rfl) (by rfl) ?_; exact Z3)))
      refine D_E rfl ?_
      refine Ab (out := [.slice ax x.args.length cxx, .slice ay y.args.length cyy]) rfl (by omega) (by kernel_rfl) (fun wE nE => ?_)
      have kCE := kd.trans nE.keep
      have kWE := kWC.trans kCE
      have hE := hC.ext kCE
      refine AO ⟨Ext w, fun _ e => e, kWE, ?_⟩
      have hps : (ps' ++ [(l, m)]).length = ps'.length + 1 := by simp
      refine D_E rfl ?_
      refine W_append1 (size := 2) (n := ps'.length + 1) (cap := cap) (g := gb) (sv := .slice (some ⟨wd.heap.size, 0, none⟩) 1 1) (ok := As) (cs := [.slice ax x.args.length cxx, .slice ay y.args.length cyy]) rfl rfl hE.blk (by rw [List.size_toArray]; exact hE.len) (by omega) hE.mx
       ⟨_, _, rfl, by omega, by omega, (fun h => by cases h), .inr ⟨_, _, rfl, trivial, nE.blk.cells⟩⟩ (by decide) rfl rfl (by intro u hu; simp at hu; rcases hu with rfl | rfl <;> rfl) (by omega) (by omega) (fun g2 cap2 e2 cur2 wF hg2 hb2' hs2' hle2 hm2 ht2 kF => ?_)
      have hF := hE.push kWE.size hg2 hb2' hs2' hm2 (by rw [hps]; simpa using ht2) kF (fvx.keep (kCE.any.trans kF (by simp)) fun b hb hm => hno b (.inl hb) hm) (fvy.keep (kCE.any.trans kF (by simp)) fun b hb hm => hno b (.inr hb) hm) hlxy
      have kWF := kWE.keep kF (by simp; exact hge)
      refine AO ⟨Ext w, fun _ e => e, kWF, ?_⟩
      refine D_R rfl rfl (fun W hW => AC (AM rfl Z3)) (Ah ?_)
      repeat refine nx rfl ?_
      refine ⟨(g2, cap2, ps' ++ [(l, m)] ++ [(x.args, y.args)]), ⟨rfl, ⟨congrArg (fun n => Value.slice (some ⟨g2, 0, none⟩) n cap2) (by simp), trivial⟩, ⟨⟨_, _, _, hF⟩, kWF, ?_, by simp only; rw [BJ, BJ]; simp only; omega⟩⟩, by simp only; rw [BJ, BJ, BJ]; simp only [szL]; omega⟩
      simp only
      rw [CR, CR, hres, cmpL, hs2, C6]
     ·(refine AA (AP rfl (AH rfl (AD rfl (AF rfl (by assumption) ?_)))) <;> refine AZ rfl ?_ <;> (refine W_gtr rfl rfl (fun hc => ?_) (fun hc => ?_) <;> try omega))
      repeat first | refine nx rfl ?_ | refine nf rfl ?_
      have ex : x.args = [] := List.length_eq_zero_iff.1 (by omega)
      have ez : BV x y = 0 := by rw [hs2, ex]; cases y.args <;> rfl
      refine ⟨(gb, cap, ps' ++ [(l, m)]), ⟨rfl, ⟨congrArg (fun n => Value.slice (some ⟨gb, 0, none⟩) n cap) (by simp), trivial⟩, ⟨⟨_, _, _, hC⟩, kWC, ?_, by simp only; rw [BJ]; simp only; omega⟩⟩, by simp only; rw [BJ, BJ]; simp only [szL]; omega⟩
      simp only
      rw [CR, hres, cmpL_cons0 ez]
end Go.Proofs.YtkhhjdjmhbdjfaaGreatDoor
namespace Go.Proofs.YtkhhjdjmhbdjfaaGreatDoor
open Go.RowKit
set_option linter.unusedVariables false
variable {mk : Prop} [MK mk]
def Cs (l : List Sgn) (s : List UInt8) : Int := match l.findIdx? (fun x => decide (x.name = s)) with
 | some i => (i : Int)
 | none => -1
theorem sigFind_ok (w : World) (v : Value) (l : List Sgn) (s : List UInt8) (h : SlAt sgnR As w v l) : Fn Tryz.prog 64 [v, An s] w fun v w' => v = .int .i64 (Cs l s) ∧ w' = w := by
 obtain ⟨a, c, L, rfl, hS, hF⟩ := h
 have hlm : l.length ≤ 9223372036854775807 := by obtain ⟨_, _, hv, g1, g2, _⟩ := id hS; cases hv; omega
 refine AR Tryz.func64 rfl Tryz.ntmps64 (Nat.le_of_ble_eq_true rfl) (by kernel_rfl) ?_
 repeat refine nx rfl ?_
 refine AA (AC (AG rfl ?_))
 repeat refine nx rfl ?_
 refine AA (AM rfl (AZ rfl (AG rfl ?_)))
 repeat refine nx rfl ?_
 refine A3 (α := Nat) (fun k => [(0, .slice a l.length c), (1, An s), (7, .int .i64 (l.length : Int)), (8, .int .i64 (k : Int))]) (fun k W => k ≤ l.length ∧ W = w ∧ ∀ j y, j < k → l[j]? = some y → y.name ≠ s) (fun k => l.length - k) 0 ⟨rfl, rfl, rfl, rfl, trivial⟩ ⟨by omega, rfl, fun j y hj => by omega⟩ ?_
 rintro k w3 f3 ⟨hk, rfl, hj⟩
 repeat refine nx rfl ?_
 by_cases hlt : k < l.length
 ·obtain ⟨y, hy⟩ : ∃ y, l[k]? = some y := ⟨_, List.getElem?_eq_getElem hlt⟩
  obtain ⟨cy, hcy⟩ : ∃ cy, L[k]? = some cy := ⟨_, List.getElem?_eq_getElem (by rw [hF.1]; exact hlt)⟩
  obtain rfl : cy = sgnC y := hF.2 k cy y hcy hy
  obtain ⟨b, o, rfl, _, hcell⟩ := hS.recs hF (sz := 3) rfl hcy hlt
  have c0 : w3.cell? ⟨b, o + k * 3 + 0, none⟩ = some (An y.name) := hcell 0 _ rfl
  refine AA (At rfl rfl (by omega) ?_)
  repeat refine nx rfl ?_
  refine AA (AG rfl (AC (AG rfl ?_)))
  repeat refine nx rfl ?_
  refine AA (AM rfl (AG rfl ?_))
  refine Au (k := k) rfl rfl rfl hlt ?_
  by_cases hyx : y.name = s
  ·(refine AD rfl (AF rfl (by assumption) ?_) <;> refine A1 rfl ?_ <;> refine Bs rfl rfl (fun hc => ?_) (fun hc => ?_) <;> refine AO ?_)
   case refine_2 => exact absurd hyx (by assumption)
   repeat refine nx rfl ?_
   refine AA (AG rfl (AC (AG rfl ?_)))
   repeat refine nx rfl ?_
   refine AI rfl ⟨?_, rfl⟩
   have : l.findIdx? (fun x => decide (x.name = s)) = some k := by
    rw [List.findIdx?_eq_some_iff_getElem]
    obtain ⟨h1, h2⟩ := List.getElem?_eq_some_iff.1 hy
    refine ⟨hlt, by simp [h2, hyx], fun j hjk => ?_⟩
    have := hj j l[j] hjk (List.getElem?_eq_getElem (by omega))
    simpa using this
   unfold Cs
   rw [this]; rfl
  ·(refine AD rfl (AF rfl (by assumption) ?_) <;> refine A1 rfl ?_ <;> refine Bs rfl rfl (fun hc => ?_) (fun hc => ?_) <;> refine AO ?_)
   case refine_1 => exact absurd (by assumption) hyx
   repeat first | refine nx rfl ?_ | refine nf rfl ?_
   (refine AA (Av rfl rfl (by first | exact AV (by omega) (by omega) | exact AY (by omega) (by omega) | exact AW (by omega) (by omega)) ?_) <;> refine AG rfl ?_)
   repeat refine nx rfl ?_
   refine ⟨k + 1, ⟨rfl, ⟨rfl, rfl, rfl, ?_, trivial⟩, ⟨by omega, rfl, fun j z hjk hz => ?_⟩⟩, by omega⟩
   ·show Value.int .i64 ((k : Int) + 1) = _
    rw [Int.natCast_add]; rfl
   ·rcases Nat.lt_or_ge j k with h | h
    ·exact hj j z h hz
    ·obtain rfl : j = k := by omega
     rw [hy] at hz; cases hz; exact hyx
 ·obtain rfl : k = l.length := by omega
  refine AA (Aj rfl rfl (by omega) ?_)
  repeat first | refine nx rfl ?_ | refine nf rfl ?_
  refine AA (AC (AG rfl ?_))
  repeat refine nx rfl ?_
  refine AI rfl ⟨?_, rfl⟩
  have : l.findIdx? (fun x => decide (x.name = s)) = none := by
   rw [List.findIdx?_eq_none_iff]
   intro x hx
   obtain ⟨i, hi⟩ := List.getElem?_of_mem hx
   simpa using hj i x (List.getElem?_eq_some_iff.1 hi).1 hi
  unfold Cs
  rw [this]; rfl
end Go.Proofs.YtkhhjdjmhbdjfaaGreatDoor
namespace Go.Proofs.YtkhhjdjmhbdjfaaGreatDoor
open Go.RowKit
set_option linter.unusedVariables false
variable {mk : Prop} [MK mk]
def BM : List Sgn → Int
 | [] => 1
 | x :: l => BM l * x.size
def okI (l : List Sgn) (i : Nat) : Bool := match l[i]? with
 | some x => nameB x.name && decide (2 ≤ x.size) && decide (x.size ≤ 4) && (l.take i).all (fun y => decide (y.name ≠ x.name))
 | none => true
def BG (l : List Sgn) : Bool := decide (1 ≤ l.length) && decide (l.length ≤ 6) && (List.range l.length).all (okI l) && decide (BM l ≤ 64)
theorem prodS_snoc : ∀ (l : List Sgn) (x : Sgn), BM (l ++ [x]) = BM l * x.size
 | [], x => by simp [BM]
 | y :: l, x => by
  rw [List.cons_append, BM, prodS_snoc l x, BM, Int.mul_right_comm]
theorem prodS_take {l : List Sgn} {k : Nat} {x : Sgn} (h : l[k]? = some x) : BM (l.take (k + 1)) = BM (l.take k) * x.size := by
 rw [List.take_add_one, h, ← prodS_snoc]; rfl
theorem Ca {l : List Sgn} {i : Nat} {x : Sgn} (hx : l[i]? = some x) : okI l i = true ↔ nameB x.name = true ∧ 2 ≤ x.size ∧ x.size ≤ 4 ∧ ∀ j y, j < i → l[j]? = some y → y.name ≠ x.name := by
 unfold okI
 rw [hx]
 simp only [Bool.and_eq_true, decide_eq_true_eq, List.all_eq_true, and_assoc]
 refine and_congr_right fun _ => and_congr_right fun _ => and_congr_right fun _ => ?_
 constructor
 ·intro h j y hj hy
  exact h y (List.mem_of_getElem? (by rw [List.getElem?_take, if_pos hj]; exact hy))
 ·intro h y hy
  obtain ⟨j, hj⟩ := List.getElem?_of_mem hy
  rw [List.getElem?_take] at hj
  split at hj
  ·exact h j y (by assumption) hj
  ·cases hj
theorem prodS_le : ∀ (l : List Sgn), (∀ x ∈ l, 2 ≤ x.size ∧ x.size ≤ 4) → l.length ≤ 6 → 1 ≤ BM l ∧ BM l ≤ (4 : Int) ^ l.length
 | [], _, _ => by simp [BM]
 | x :: l, h, hl => by
  obtain ⟨h1, h2⟩ := prodS_le l (fun y hy => h y (by simp [hy])) (by simp at hl; omega)
  obtain ⟨h3, h4⟩ := h x (by simp)
  simp only [BM, List.length_cons]
  constructor
  ·have := Int.mul_le_mul h1 (show (1 : Int) ≤ x.size by omega) (by omega) (by omega)
   simpa using this
  ·rw [Int.pow_succ]
   exact Int.mul_le_mul h2 h4 (by omega) (by omega)
theorem pow_six {n : Nat} (h : n ≤ 6) : (4 : Int) ^ n ≤ 4096 := by
 have : n = 0 ∨ n = 1 ∨ n = 2 ∨ n = 3 ∨ n = 4 ∨ n = 5 ∨ n = 6 := by omega
 rcases this with rfl | rfl | rfl | rfl | rfl | rfl | rfl <;> decide
theorem prodS_six {l : List Sgn} (h : ∀ i, i < l.length → okI l i = true) {k : Nat} (hk : k ≤ l.length) (h6 : l.length ≤ 6) : 1 ≤ BM (l.take k) ∧ BM (l.take k) ≤ 4096 := by
 have h1 := prodS_le (l.take k) (fun x hx => by
  obtain ⟨i, hi⟩ := List.getElem?_of_mem (List.mem_of_mem_take hx)
  have := (Ca hi).1 (h i (List.getElem?_eq_some_iff.1 hi).1)
  exact ⟨this.2.1, this.2.2.1⟩) (by rw [List.length_take]; omega)
 have h2 := pow_six (n := (l.take k).length) (by rw [List.length_take]; omega)
 omega
theorem CN {l : List Sgn} (h : BG l = true) : 1 ≤ l.length ∧ l.length ≤ 6 ∧ (∀ i, i < l.length → okI l i = true) ∧ BM l ≤ 64 := by
 simp only [BG, Bool.and_eq_true, decide_eq_true_eq, List.all_eq_true, List.mem_range] at h
 exact ⟨h.1.1.1, h.1.1.2, h.1.2, h.2⟩
theorem valid_false {l : List Sgn} {i : Nat} (hi : i < l.length) (h : okI l i = false) : BG l = false := by
 cases hv : BG l with
 | false => rfl
 | true => rw [(CN hv).2.2.1 i hi] at h; cases h
set_option maxHeartbeats 1600000 in
theorem sigValid_ok (w : World) (v : Value) (l : List Sgn) (h : SlAt sgnR As w v l) (hK : KY w) : Fn Tryz.prog 67 [v] w fun u w' => u = .bool (BG l) ∧ Ext w w' := by
 obtain ⟨a, c, L, rfl, hS, hF⟩ := h
 have hlm : l.length ≤ 9223372036854775807 := by obtain ⟨_, _, hv, g1, g2, _⟩ := id hS; cases hv; omega
 refine AR Tryz.func67 rfl Tryz.ntmps67 (Nat.le_of_ble_eq_true rfl) (by kernel_rfl) ?_
 repeat refine nx rfl ?_
 refine AA (AC (AB rfl ?_))
 repeat refine nx rfl ?_
 by_cases hlen : 1 ≤ l.length ∧ l.length ≤ 6
 case neg =>
  have hv : BG l = false := by
   simp only [BG]
   rw [show (decide (1 ≤ l.length) && decide (l.length ≤ 6)) = false by rw [← Bool.not_eq_true, Bool.and_eq_true, decide_eq_true_eq, decide_eq_true_eq]; exact hlen]
   rfl
  rw [hv]
  by_cases h1 : 1 ≤ l.length
  ·refine AA (AM rfl (AZ rfl (Aj rfl rfl (by omega) (AB rfl (AE rfl (AM rfl (AE rfl (AZ rfl (AE rfl (Co rfl rfl (by omega) (AJ rfl (AB rfl ?_))))))))))))
   repeat refine nx rfl ?_
   refine AA (AC (AB rfl ?_))
   repeat refine nx rfl ?_
   exact AI rfl ⟨rfl, Ext.refl _⟩
  ·refine AA (AM rfl (AZ rfl (At rfl rfl (by omega) (AB rfl (AL rfl (AL rfl (AL rfl (AK rfl (AB rfl ?_)))))))))
   repeat refine nx rfl ?_
   refine AA (AC (AB rfl ?_))
   repeat refine nx rfl ?_
   exact AI rfl ⟨rfl, Ext.refl _⟩
 obtain ⟨hl1, hl6⟩ := hlen
 refine AA (AM rfl (AZ rfl (Aj rfl rfl (by omega) (AB rfl (AE rfl (AM rfl (AE rfl (AZ rfl (AE rfl (B9 rfl rfl (by omega) (AJ rfl (AB rfl ?_))))))))))))
 repeat first | refine nx rfl ?_ | refine nf rfl ?_
 refine AA (AC (AB rfl ?_))
 repeat refine nx rfl ?_
 refine AA (AC (AG rfl ?_))
 repeat refine nx rfl ?_
 refine AA (AM rfl (AZ rfl (AG rfl ?_)))
 repeat refine nx rfl ?_
 refine A3 (α := Nat) (fun k => [(0, .slice a l.length c), (3, .bool true), (4, .int .i64 (BM (l.take k))), (16, .int .i64 (l.length : Int)), (17, .int .i64 (k : Int))]) (fun k W => k ≤ l.length ∧ Ext w W ∧ ∀ i, i < k → okI l i = true) (fun k => l.length - k) 0 ⟨rfl, rfl, rfl, rfl, rfl, trivial⟩ ⟨by simp, Ext.refl _, fun i hi => by omega⟩ ?_
 rintro k w1 f1 ⟨hk, k1, hok⟩
 repeat refine nx rfl ?_
 by_cases hlt : k < l.length
 ·refine AA (At rfl rfl (by omega) ?_)
  repeat refine nx rfl ?_
  obtain ⟨x, hx⟩ : ∃ x, l[k]? = some x := ⟨_, List.getElem?_eq_getElem hlt⟩
  have hcell : ∀ W, Ext w W → ∀ j y, l[j]? = some y → ∃ b o, a = some ⟨b, o, none⟩ ∧ W.cell? ⟨b, o + j * 3 + 0, none⟩ = some (An y.name) ∧ W.cell? ⟨b, o + j * 3 + 2, none⟩ = some (.int .i64 y.size) := by
   intro W hW j y hy
   have hj := (List.getElem?_eq_some_iff.1 hy).1
   obtain ⟨cy, hcy⟩ : ∃ cy, L[j]? = some cy := ⟨_, List.getElem?_eq_getElem (by rw [hF.1]; exact hj)⟩
   obtain rfl : cy = sgnC y := hF.2 j cy y hcy hy
   obtain ⟨b, o, e, _, hc⟩ := (hS.ext hW).recs (hF.ext hW) (sz := 3) rfl hcy hj
   exact ⟨b, o, e, hc 0 _ rfl, hc 2 _ rfl⟩
  obtain ⟨b, o, rfl, c0, c2⟩ := hcell w1 k1 k x hx
  have hxs : okI l k = true ↔ _ := Ca hx
  have hp6 := prodS_six (l := l.take k) (fun i hi => by
   rw [List.length_take] at hi
   have hik : i < k := by omega
   obtain ⟨y, hy⟩ : ∃ y, l[i]? = some y := ⟨_, List.getElem?_eq_getElem (by omega)⟩
   have hy2 : (l.take k)[i]? = some y := by rw [List.getElem?_take, if_pos hik]; exact hy
   have := (Ca hy).1 (hok i hik)
   refine (Ca hy2).2 ⟨this.1, this.2.1, this.2.2.1, fun j z hj hz => ?_⟩
   rw [List.getElem?_take, if_pos (by omega)] at hz
   exact this.2.2.2 j z hj hz) (Nat.le_refl _) (by rw [List.length_take]; omega)
  rw [List.take_length] at hp6
  have hpn := prodS_take hx
  refine AA (AG rfl (AC (AG rfl ?_)))
  repeat refine nx rfl ?_
  refine AA (AM rfl (AG rfl ?_))
  refine Au (k := k) rfl rfl rfl hlt ?_
  refine AD rfl (AF rfl (by assumption) ?_)
  refine AQ (sigNameK_ok x.name w1 (hK.keep k1 (by simp))) rfl ?_
  rintro _ _ ⟨rfl, rfl⟩
  have bad : okI l k = false → BG l = false := valid_false hlt
  cases hnm : nameB x.name with
  | false =>
   have hb := bad (by rw [← Bool.not_eq_true, hxs]; simp [hnm])
   refine Ak rfl (AB rfl (AL rfl (AL rfl (AL rfl (AL rfl (AL rfl (AL rfl (AK rfl (AB rfl (AB rfl (AL rfl (AL rfl (AL rfl (AL rfl (AL rfl (AL rfl (AK rfl (AB rfl ?_))))))))))))))))))
   repeat refine nx rfl ?_
   refine AA (AC (AB rfl ?_))
   repeat refine nx rfl ?_
   refine AA (AB rfl (AB rfl (AL rfl (AL rfl (AJ rfl (AB rfl (AC (AB rfl ?_))))))))
   repeat refine nx rfl ?_
   exact AI rfl ⟨by rw [hb]; rfl, k1⟩
  | true =>
  refine Ak rfl (AB rfl (AE rfl (AM rfl (AE rfl (AG rfl ?_)))))
  refine AE rfl (Au (k := k) rfl rfl rfl hlt ?_)
  by_cases h2 : 2 ≤ x.size
  case neg =>
   have hb := bad (by rw [← Bool.not_eq_true, hxs]; simp [h2])
   (refine AE rfl (AD rfl (AE rfl (AF rfl (by assumption) ?_))) <;> refine AE rfl (At rfl rfl (by omega) (AJ rfl (AB rfl (AB rfl (AL rfl (AL rfl (AL rfl (AL rfl (AL rfl (AL rfl (AK rfl (AB rfl ?_)))))))))))))
   repeat refine nx rfl ?_
   refine AA (AC (AB rfl ?_))
   repeat refine nx rfl ?_
   refine AA (AB rfl (AB rfl (AL rfl (AL rfl (AJ rfl (AB rfl (AC (AB rfl ?_))))))))
   repeat refine nx rfl ?_
   exact AI rfl ⟨by rw [hb]; rfl, k1⟩
  (refine AE rfl (AD rfl (AE rfl (AF rfl (by assumption) ?_))) <;> refine AE rfl (Aj rfl rfl (by omega) (AJ rfl (AB rfl (AB rfl (AE rfl (AM rfl (AE rfl (AG rfl ?_)))))))))
  refine AE rfl (Au (k := k) rfl rfl rfl hlt ?_)
  by_cases h4 : x.size ≤ 4
  case neg =>
   have hb := bad (by rw [← Bool.not_eq_true, hxs]; simp [h4])
   (refine AE rfl (AD rfl (AE rfl (AF rfl (by assumption) ?_))) <;> refine AE rfl (Co rfl rfl (by omega) (AJ rfl (AB rfl ?_))))
   repeat refine nx rfl ?_
   refine AA (AC (AB rfl ?_))
   repeat refine nx rfl ?_
   refine AA (AB rfl (AB rfl (AL rfl (AL rfl (AJ rfl (AB rfl (AC (AB rfl ?_))))))))
   repeat refine nx rfl ?_
   exact AI rfl ⟨by rw [hb]; rfl, k1⟩
  (refine AE rfl (AD rfl (AE rfl (AF rfl (by assumption) ?_))) <;> refine AE rfl (B9 rfl rfl (by omega) (AJ rfl (AB rfl ?_))))
  repeat first | refine nx rfl ?_ | refine nf rfl ?_
  refine AA (AG rfl (AG rfl ?_))
  repeat refine nx rfl ?_
  refine A3 (α := Nat) (fun j => [(0, .slice (some ⟨b, o, none⟩) l.length c), (3, .bool true), (4, .int .i64 (BM (l.take k))), (5, .int .i64 (k : Int)), (16, .int .i64 (l.length : Int)), (17, .int .i64 (k : Int)), (43, .int .i64 (k : Int)), (44, .int .i64 (j : Int))]) (fun j W => j ≤ k ∧ Ext w W ∧ ∀ i y, i < j → l[i]? = some y → y.name ≠ x.name) (fun j => k - j) 0 ⟨rfl, rfl, rfl, rfl, rfl, rfl, rfl, rfl, trivial⟩ ⟨by simp, k1, fun i y hi => by omega⟩ ?_
  clear c0 c2 k1
  rintro j w2 f2 ⟨hj, k2, hdist⟩
  repeat refine nx rfl ?_
  by_cases hjk : j < k
  ·obtain ⟨y, hy⟩ : ∃ y, l[j]? = some y := ⟨_, List.getElem?_eq_getElem (by omega)⟩
   refine AA (At rfl rfl (by omega) ?_)
   repeat refine nx rfl ?_
   refine AA (AG rfl (AC (AG rfl ?_)))
   repeat refine nx rfl ?_
   generalize hcc : decide (y.name = x.name) = cc
   repeat' first | refine AO ?_ | refine Q_then ?_ | refine C_seq ?_
   refine Cn (α := Unit) (fun _ => [(0, .slice (some ⟨b, o, none⟩) l.length c), (3, .bool true), (4, .int .i64 (BM (l.take k))), (5, .int .i64 (k : Int)), (16, .int .i64 (l.length : Int)), (17, .int .i64 (k : Int)), (43, .int .i64 (k : Int)), (44, .int .i64 (j : Int)), (57, .bool cc)]) (fun _ W => Ext w W) ?_ ?_
   ·refine Ad (.read 0 (.read 1 (.read 2 (.read 3 (.read 4 (.read 5 (.read 6 (.read 7 (.read 8 (.read 9 (.read 10 .done))))))))))) Ax (by kernel_rfl) (fun wd kd ed => ⟨Ext wd, ?_, ?_⟩)
    ·exact Ext.refl _
    have g1 : ∀ W, Ext wd W → W.cell? ⟨b, o + j * 3 + 0, none⟩ = some (An y.name) := fun W e => by
     obtain ⟨b', o', e', q, _⟩ := hcell W ((k2.trans kd).trans e) j y hy
     cases e'; exact q
    have g2 : ∀ W, Ext wd W → W.cell? ⟨b, o + k * 3 + 0, none⟩ = some (An x.name) := fun W e => by
     obtain ⟨b', o', e', q, _⟩ := hcell W ((k2.trans kd).trans e) k x hx
     cases e'; exact q
    refine D_R rfl rfl (fun W hW => AM rfl Z3) (D_R rfl rfl (fun W hW => AG rfl Z3) ?_)
    refine D_R rfl rfl (fun W hW => by refine Au (k := j) rfl rfl rfl (by omega) ?_; exact AO ⟨rfl, rfl, rfl⟩) ?_
    refine D_R rfl rfl (fun W hW => AD rfl Z3) (D_R rfl rfl (fun W hW => AF rfl (g1 W hW) Z3) (D_R rfl rfl (fun W hW => AM rfl Z3) (D_R rfl rfl (fun W hW => AG rfl Z3) ?_)))
    refine D_R rfl rfl (fun W hW => by refine Au (k := k) rfl rfl rfl (by omega) ?_; exact AO ⟨rfl, rfl, rfl⟩) ?_
    refine D_R rfl rfl (fun W hW => AD rfl Z3) (D_R rfl rfl (fun W hW => AF rfl (g2 W hW) Z3) ?_)
    ((refine D_seql rfl rfl rfl rfl (fun hc => ?_) (fun hc => ?_)) <;> refine Ah ?_)
    ·have e : cc = true := by rw [← hcc]; exact decide_eq_true (by assumption)
     subst e
     repeat refine nx rfl ?_
     exact A0 () ⟨rfl, rfl, rfl, rfl, rfl, rfl, rfl, rfl, rfl, trivial⟩ (k2.trans kd)
    ·have e : cc = false := by rw [← hcc]; exact decide_eq_false (by assumption)
     subst e
     repeat refine nx rfl ?_
     exact A0 () ⟨rfl, rfl, rfl, rfl, rfl, rfl, rfl, rfl, rfl, trivial⟩ (k2.trans kd)
   rintro _ w3 f3 k3
   cases cc with
   | true =>
    have hb := bad (by
     rw [← Bool.not_eq_true, hxs]
     exact fun q => q.2.2.2 j y hjk hy (of_decide_eq_true hcc))
    repeat refine nx rfl ?_
    refine AA (AC (AB rfl ?_))
    repeat refine nx rfl ?_
    refine AA (AB rfl (AB rfl (AL rfl (AL rfl (AJ rfl (AB rfl (AC (AB rfl ?_))))))))
    repeat refine nx rfl ?_
    exact AI rfl ⟨by rw [hb]; rfl, k3⟩
   | false =>
    repeat first | refine nx rfl ?_ | refine nf rfl ?_
    (refine AA (Av rfl rfl (by first | exact AV (by omega) (by omega) | exact AY (by omega) (by omega) | exact AW (by omega) (by omega)) ?_) <;> refine AG rfl ?_)
    repeat refine nx rfl ?_
    refine ⟨j + 1, ⟨rfl, ⟨rfl, rfl, rfl, rfl, rfl, rfl, rfl, ?_, trivial⟩, ⟨hjk, k3, fun i z hi hz => ?_⟩⟩, by omega⟩
    ·show Value.int .i64 ((j : Int) + 1) = _
     rw [Int.natCast_add]; rfl
    ·by_cases hij : i = j
     ·subst hij
      rw [hy] at hz; cases hz
      exact of_decide_eq_false hcc
     ·exact hdist i z (by omega) hz
  ·obtain rfl : j = k := by omega
   have hokk : okI l j = true := hxs.2 ⟨hnm, h2, h4, hdist⟩
   obtain ⟨_, _, e', c0, c2⟩ := hcell w2 k2 j x hx
   cases e'
   refine AA (Aj rfl rfl (by omega) ?_)
   repeat first | refine nx rfl ?_ | refine nf rfl ?_
   have hmul : BM (l.take j) * x.size ≤ 16384 := by
    have := Int.mul_le_mul hp6.2 h4 (by omega) (by omega)
    omega
   have hmul2 : 0 ≤ BM (l.take j) * x.size := Int.mul_nonneg (by omega) (by omega)
   refine AA (AG rfl (AM rfl (AG rfl ?_)))
   refine Au (k := j) rfl rfl rfl hlt ?_
   (refine AD rfl (AF rfl (by assumption) ?_) <;> refine W_mul rfl rfl (by first | exact AV (by omega) (by omega) | exact AY (by omega) (by omega) | exact AW (by omega) (by omega)) ?_ <;> refine AC (AG rfl ?_))
   repeat refine nx rfl ?_
   (refine AA (Av rfl rfl (by first | exact AV (by omega) (by omega) | exact AY (by omega) (by omega) | exact AW (by omega) (by omega)) ?_) <;> refine AG rfl ?_)
   repeat refine nx rfl ?_
   refine ⟨j + 1, ⟨rfl, ⟨rfl, rfl, ?_, rfl, ?_, trivial⟩, ⟨hlt, k2, fun i hi => ?_⟩⟩, by omega⟩
   ·exact congrArg (Value.int .i64) hpn.symm
   ·show Value.int .i64 ((j : Int) + 1) = _
    rw [Int.natCast_add]; rfl
   ·by_cases hij : i = j
    ·subst hij; exact hokk
    ·exact hok i (by omega)
 ·obtain rfl : k = l.length := by omega
  rw [List.take_length]
  have hall : (List.range l.length).all (okI l) = true := by
   rw [List.all_eq_true]
   exact fun i hi => hok i (List.mem_range.1 hi)
  have hv : BG l = decide (BM l ≤ 64) := by
   unfold BG
   rw [hall, decide_eq_true hl1, decide_eq_true hl6]; simp
  rw [hv]
  refine AA (Aj rfl rfl (by omega) ?_)
  repeat first | refine nx rfl ?_ | refine nf rfl ?_
  by_cases hp : BM l ≤ 64
  ·refine AA (AB rfl (AB rfl (AE rfl (AG rfl (AE rfl (BZ rfl rfl (by omega) (AK rfl (AB rfl (AC (AB rfl ?_))))))))))
   repeat refine nx rfl ?_
   exact AI rfl ⟨by rw [decide_eq_true hp]; rfl, k1⟩
  ·refine AA (AB rfl (AB rfl (AE rfl (AG rfl (AE rfl (Bh rfl rfl (by omega) (AK rfl (AB rfl (AC (AB rfl ?_))))))))))
   repeat refine nx rfl ?_
   exact AI rfl ⟨by rw [decide_eq_false hp]; rfl, k1⟩
end Go.Proofs.YtkhhjdjmhbdjfaaGreatDoor
namespace Go.Proofs.YtkhhjdjmhbdjfaaGreatDoor
open Go.RowKit
set_option linter.unusedVariables false
variable {mk : Prop} [MK mk]
structure WtsR (yv : Value) (X : List Nat) (B : Nat) (l : List Sgn) (J : Nat → World → Prop) (D : World → Prop) : Prop where
 fn : ∃ y, yv = .func (.yield y) #[] #[]
 keep : ∀ {k : Nat} {W W' : World} {Y : List Nat}, J k W → Keep Y W W' → (∀ y ∈ Y, B ≤ y) → J k W'
 step : ∀ {k : Nat} {W : World} {x : Sgn}, J k W → l[k]? = some x → YldP Tryz.prog yv [.int .i64 (k : Int), .int .i64 (BM (l.take k))] W (fun v W' => Keep X W W' ∧ ((v = .bool true ∧ J (k + 1) W') ∨ (v = .bool false ∧ D W'))) (fun _ _ => False)
theorem prod_bound {l : List Sgn} (hv : BG l = true) {k : Nat} {x : Sgn} (hx : l[k]? = some x) : 1 ≤ BM (l.take k) ∧ BM (l.take k) ≤ 4096 ∧ 2 ≤ x.size ∧ x.size ≤ 4 ∧ 0 ≤ BM (l.take k) * x.size ∧ BM (l.take k) * x.size ≤ 16384 := by
 obtain ⟨h1, h6, hok, _⟩ := CN hv
 have hk := (List.getElem?_eq_some_iff.1 hx).1
 have hp := prodS_six hok (k := k) (by omega) h6
 have ho := (Ca hx).1 (hok k hk)
 have h2 := Int.mul_le_mul hp.2 ho.2.2.1 (by omega) (by omega)
 exact ⟨hp.1, hp.2, ho.2.1, ho.2.2.1, Int.mul_nonneg (by omega) (by omega), by omega⟩
theorem SlAt.keep {α : Type} {R : Rp α} {ok : Nat → Prop} {X : List Nat} {w w' : World} {v : Value} {l : List α} (h : SlAt R ok w v l) (k : Keep X w w') (hX : ∀ b, ok b → b ∉ X) : SlAt R ok w' v l := by
 obtain ⟨a, c, L, e, h1, h2⟩ := h
 exact ⟨a, c, L, e, h1.keep k hX, h2.keep k hX⟩
theorem SlAt.lt {α : Type} {R : Rp α} {ok : Nat → Prop} {w : World} {v : Value} {l : List α} (hR : 0 < R.size) (h : SlAt R ok w v l) : SlAt R (fun b => ok b ∧ b < w.heap.size) w v l := by
 obtain ⟨a, c, L, e, h1, h2⟩ := h
 exact ⟨a, c, L, e, Sl_ltR hR h1 h2, h2.lt⟩
theorem SlAt.sig {ok : Nat → Prop} {w : World} {a : Option Addr} {n c : Nat} {l : List Sgn} {k : Nat} {x : Sgn} (h : SlAt sgnR ok w (.slice a n c) l) (hx : l[k]? = some x) : n = l.length ∧ ∃ b o, a = some ⟨b, o, none⟩ ∧ ok b ∧ Cells w b (o + k * 3) (sgnC x) := by
 obtain ⟨a', c', L, e, hS, hF⟩ := h
 cases e
 have hj := (List.getElem?_eq_some_iff.1 hx).1
 obtain ⟨cy, hcy⟩ : ∃ cy, L[k]? = some cy := ⟨_, List.getElem?_eq_getElem (by rw [hF.1]; exact hj)⟩
 obtain rfl : cy = sgnC x := hF.2 k cy x hcy hx
 obtain ⟨b, o, e, hb, hc⟩ := hS.recs hF (sz := 3) rfl hcy hj
 exact ⟨rfl, b, o, e, hb, hc⟩
theorem SlAt.len {α : Type} {R : Rp α} {ok : Nat → Prop} {w : World} {v : Value} {l : List α} (h : SlAt R ok w v l) : ∃ a c, v = .slice a l.length c ∧ l.length ≤ 9223372036854775807 := by
 obtain ⟨a, c, L, rfl, hS, _⟩ := h
 refine ⟨a, c, rfl, ?_⟩
 obtain ⟨_, _, hv, g1, g2, _⟩ := hS
 cases hv; omega
theorem weights_ok (w : World) (v : Value) (hv1 : v.oneCell' = true) : Fn Tryz.prog 107 [v] w fun u w' => u = .func (.func 140) #[] #[pt w.heap.size] ∧ New w w' 22 [v] := by
 refine AR Tryz.func107 rfl Tryz.ntmps107 (Nat.le_of_ble_eq_true rfl) (by kernel_rfl) ?_
 repeat refine nx rfl ?_
 refine AA ?_; refine A5 (L := [v]) (by cases v <;> simp_all [Value.cells, Value.oneCell', ev, argF]) (fun w1 n1 => ?_)
 refine AC (Be ?_)
 repeat refine nx rfl ?_
 refine AA (Ae rfl rfl (AC (Bq rfl ?_)))
 repeat refine nx rfl ?_
 exact AI rfl ⟨rfl, n1⟩
theorem weightsIt_ok {yv : Value} {X : List Nat} {J : Nat → World → Prop} {D : World → Prop} (w : World) (cl : Nat) (v : Value) (l : List Sgn) (H : WtsR yv X w.heap.size l J D) (hcl : Blk w cl 22 [v]) (hv : SlAt sgnR (fun b => b ∉ X) w v l) (hval : BG l = true) (hJ : J 0 w) (hclX : cl ∉ X) :
  Fn Tryz.prog 140 [yv, pt cl] w fun _ w' => Keep X w w' ∧ (J l.length w' ∨ D w') := by
 obtain ⟨y, rfl⟩ := H.fn
 obtain ⟨a, c, rfl, hlm⟩ := hv.len
 refine AR Tryz.func140 rfl Tryz.ntmps140 (Nat.le_of_ble_eq_true rfl) (by kernel_rfl) ?_
 repeat refine nx rfl ?_
 refine AA (AC (AG rfl ?_))
 repeat refine nx rfl ?_
 have c0 := hcl.cell (o := 0) rfl
 (refine AA (AF rfl (Blk.cell (by assumption) (by rfl)) ?_) <;> refine AZ rfl (AG rfl ?_))
 repeat refine nx rfl ?_
 refine A3 (α := Nat) (fun k => [(0, .func (.yield y) #[] #[]), (1, pt cl), (3, .int .i64 (BM (l.take k))), (6, .int .i64 (l.length : Int)), (7, .int .i64 (k : Int))]) (fun k W => k ≤ l.length ∧ Keep X w W ∧ J k W) (fun k => l.length - k) 0 ⟨rfl, rfl, rfl, rfl, rfl, trivial⟩ ⟨by simp, Keep.refl _ _, hJ⟩ ?_
 rintro k W f1 ⟨hk, kW, hJk⟩
 repeat refine nx rfl ?_
 by_cases hlt : k < l.length
 ·obtain ⟨x, hx⟩ : ∃ x, l[k]? = some x := ⟨_, List.getElem?_eq_getElem hlt⟩
  obtain ⟨p1, p2, p3, p4, p5, p6⟩ := prod_bound hval hx
  refine AA (At rfl rfl (by omega) ?_)
  repeat refine nx rfl ?_
  refine AA (AG rfl (AC (AG rfl ?_)))
  repeat refine nx rfl ?_
  refine AA (Bq rfl (AG rfl (AG rfl ?_)))
  refine W_yield rfl rfl (H.step hJk hx) ?_
  rintro _ W1 ⟨k1, hr⟩
  have kW1 := kW.trans k1 (fun _ h _ => h)
  rcases hr with ⟨rfl, hJ1⟩ | ⟨rfl, hD⟩
  case inr =>
   refine Ak rfl ?_
   repeat refine nx rfl ?_
   exact fin_ret0 rfl ⟨kW1, .inr hD⟩
  obtain ⟨_, b, o, rfl, _, hcx⟩ := (hv.keep kW1 (fun _ h => h)).sig hx
  have c1 := kW1.cell c0 hclX
  have c2 : W1.cell? ⟨b, o + k * 3 + 2, none⟩ = some (.int .i64 x.size) := hcx 2 _ rfl
  refine Ak rfl ?_
  repeat first | refine nx rfl ?_ | refine nf rfl ?_
  (refine AA (AG rfl (AF rfl (by assumption) ?_)) <;> refine AG rfl ?_)
  refine Au (k := k) rfl rfl rfl hlt ?_
  (refine AD rfl (AF rfl (by assumption) ?_) <;> refine W_mul rfl rfl (by first | exact AV (by omega) (by omega) | exact AY (by omega) (by omega) | exact AW (by omega) (by omega)) ?_ <;> refine AC (AG rfl ?_))
  repeat refine nx rfl ?_
  (refine AA (Av rfl rfl (by first | exact AV (by omega) (by omega) | exact AY (by omega) (by omega) | exact AW (by omega) (by omega)) ?_) <;> refine AG rfl ?_)
  repeat refine nx rfl ?_
  refine ⟨k + 1, ⟨rfl, ⟨rfl, rfl, ?_, rfl, ?_, trivial⟩, ⟨hlt, kW1, hJ1⟩⟩, by omega⟩
  ·exact congrArg (Value.int .i64) (prodS_take hx).symm
  ·show Value.int .i64 ((k : Int) + 1) = _
   rw [Int.natCast_add]; rfl
 ·obtain rfl : k = l.length := by omega
  refine AA (Aj rfl rfl (by omega) ?_)
  repeat first | refine nx rfl ?_ | refine nf rfl ?_
  exact Cu rfl ⟨kW, .inl hJk⟩
end Go.Proofs.YtkhhjdjmhbdjfaaGreatDoor
namespace Go.Proofs.YtkhhjdjmhbdjfaaGreatDoor
set_option linter.unusedVariables false
variable {mk : Prop} [MK mk]
theorem bareL_of {i : Bool} : ∀ {l : List Fml}, (∀ a ∈ l, A9 i a = true) → bareL i l = true
 | [], _ => rfl
 | a :: l, h => by rw [bareL, h a (by simp), bareL_of fun c hc => h c (by simp [hc])]; rfl
theorem BS {op v b : Int} {nm : List UInt8} {args : List Fml} {i : Bool} (h : A9 i (.mk op nm v b args) = true) :
  C2 op = true ∧ BX op nm v b args.length = true ∧ (i = true → futB op = false) ∧ ∀ a ∈ args, A9 (i || pstB op) a = true := by
 simp only [A9, Bool.and_eq_true] at h
 obtain ⟨⟨⟨⟨h1, h2⟩, h3⟩, h4⟩, h5⟩ := h
 refine ⟨h1, h2, fun e => ?_, fun a ha => bareL_mem h5 ha⟩
 subst e
 simpa using h3
theorem bare_mk {op v b : Int} {nm : List UInt8} {args : List Fml} {i : Bool} (h1 : C2 op = true) (h2 : BX op nm v b args.length = true) (h3 : i = true → futB op = false) (h4 : op = 4 → ∀ a ∈ args, a.op = 3) (h5 : ∀ a ∈ args, A9 (i || pstB op) a = true) :
  A9 i (.mk op nm v b args) = true := by
 simp only [A9, Bool.and_eq_true]
 refine ⟨⟨⟨⟨h1, h2⟩, ?_⟩, ?_⟩, bareL_of h5⟩
 ·cases i with
  | false => rfl
  | true => rw [h3 rfl]; rfl
 ·by_cases e : op = 4
  ·rw [if_pos e]
   subst e
   have hl : args.length = 1 := by
    have := Bk h2
    simpa [A8] using this
   obtain ⟨a, rfl⟩ := Ck hl
   exact decide_eq_true (h4 rfl a (by simp))
  ·rw [if_neg e]
theorem bare_con {op : Int} (h : op = 1 ∨ op = 2) (i : Bool) : A9 i (conO op) = true := by rcases h with rfl | rfl <;> cases i <;> rfl
theorem pst_56 {op : Int} (h : op = 5 ∨ op = 6) (i : Bool) : (i || pstB op) = i := by rcases h with rfl | rfl <;> cases i <;> rfl
theorem fl_bare {op : Int} (h : op = 5 ∨ op = 6) {c : Fml} {i : Bool} (hc : A9 i c = true) : ∀ a ∈ Fl op c, A9 i a = true := by
 intro a ha
 unfold Fl at ha
 by_cases ho : c.op = op
 ·rw [if_pos ho] at ha
  obtain ⟨o, nm, v, b, args⟩ := c
  obtain rfl : o = op := ho
  have := (BS hc).2.2.2 a ha
  rwa [pst_56 h] at this
 ·rw [if_neg ho] at ha
  split at ha
  ·cases ha
  ·have : a = c := by simpa using ha
   subst this; exact hc
theorem shaped_56 {op : Int} (h : op = 5 ∨ op = 6) {n : Nat} (hn : 2 ≤ n) : BX op [] 0 0 n = true := by
 unfold BX A8
 rcases h with rfl | rfl <;> simp [hn]
theorem join_bare {op : Int} (h : op = 5 ∨ op = 6) {i : Bool} {l : List Fml} (hl : ∀ c ∈ l, A9 i c = true) : A9 i (B1 op l) = true := by
 obtain ⟨u1, u2, u3, u4, u5⟩ := uz_ne h
 rw [B4 h]
 cases CE op l with
 | true => exact bare_con u4 i
 | false =>
  simp only [Bool.false_eq_true, if_false]
  rw [CZ]
  have hd : ∀ a ∈ Cp (l.flatMap (Fl op)), A9 i a = true := by
   intro a ha
   rw [mem_dist, List.mem_flatMap] at ha
   obtain ⟨c, hc, ha⟩ := ha
   exact fl_bare h (hl c hc) a ha
  generalize Cp (l.flatMap (Fl op)) = d at hd
  cases oppB d with
  | true => exact bare_con u4 i
  | false =>
   match d, hd with
   | [], _ => exact bare_con u5 i
   | [a], hd => exact hd a (by simp)
   | a :: c :: d, hd =>
    refine bare_mk ?_ (shaped_56 h (by simp)) ?_ (fun e => by omega) fun x hx => by rw [pst_56 h]; exact hd x hx
    ·rcases h with rfl | rfl <;> rfl
    ·intro _; rcases h with rfl | rfl <;> rfl
theorem shaped_zero {op v b : Int} {nm : List UInt8} {n : Nat} (h : BX op nm v b n = true) : BX op nm v 0 n = true := by
 simp only [BX, Bool.and_eq_true, decide_eq_true_eq] at h ⊢
 obtain ⟨⟨⟨q, q6⟩, q7⟩, q8⟩ := h
 refine ⟨⟨⟨q, by omega⟩, ?_⟩, q8⟩
 split <;> omega
theorem bare_canon : ∀ {f : Fml} {i : Bool}, A9 i f = true → A9 i (Al f) = true
 | .mk op nm v b args, i, h => by
  obtain ⟨h1, h2, h3, h4⟩ := BS h
  have hlc := CP h1
  have hsh := sh_iff.1 (sh_bare h)
  have ha := Bk h2
  have ih : ∀ a ∈ args, A9 (i || pstB op) (Al a) = true := fun a hm => bare_canon (h4 a hm)
  rw [CH]
  by_cases h56 : op = 5 ∨ op = 6
  ·unfold BP
   rw [if_pos h56]
   refine join_bare h56 fun c hc => ?_
   obtain ⟨a, hm, rfl⟩ := List.mem_map.1 hc
   have := ih a hm
   rwa [pst_56 h56] at this
  have hnode : A9 i (.mk op nm v 0 (args.map Al)) = true := by
   refine bare_mk h1 (by rw [List.length_map]; exact shaped_zero h2) h3 (fun e a hm => ?_) fun a hm => ?_
   ·obtain ⟨c, hc, rfl⟩ := List.mem_map.1 hm
    exact canon_op3 (hsh.2.1.2.2.2.2 e c hc)
   ·obtain ⟨c, hc, rfl⟩ := List.mem_map.1 hm
    exact ih c hc
  have g0 : ∀ k, k < args.length → pstB op = false → A9 i ((args.map Al).getD k Af) = true := fun k hk hp => by
   rw [getD_map Al args k Af Af hk]
   have hm : args.getD k Af ∈ args := by
    rw [List.getD_eq_getElem?_getD, List.getElem?_eq_getElem hk]; exact List.getElem_mem hk
   have := ih _ hm
   rwa [hp, Bool.or_false] at this
  by_cases e8 : op = 8
  ·subst e8
   have hl : args.length = 1 := by simpa [A8] using ha
   rw [C7]
   split
   ·exact g0 0 (by omega) rfl
   ·exact hnode
  by_cases e9 : op = 9
  ·subst e9
   have hl : args.length = 2 := by simpa [A8] using ha
   rw [canonOp_9]
   split
   ·exact g0 1 (by omega) rfl
   ·exact hnode
  by_cases e10 : op = 10
  ·subst e10
   have hl : args.length = 2 := by simpa [A8] using ha
   rw [C3]
   split
   ·exact g0 1 (by omega) rfl
   ·exact hnode
  rw [canonOp_E h56 e8 e9 e10]
  exact hnode
theorem bitI_le (b : Bool) : 0 ≤ bitI b ∧ bitI b ≤ 1 := by cases b <;> decide
theorem shaped_val {op v v' b : Int} {nm : List UInt8} {n : Nat} (h : BX op nm v b n = true) (hv : v' = v ∨ (op = 15 ∨ op = 16 ∨ op = 17) ∧ 0 ≤ v' ∧ v' ≤ 1) : BX op nm v' b n = true := by
 rcases hv with rfl | ⟨hp, h0, h1⟩
 ·exact h
 simp only [BX, Bool.and_eq_true, decide_eq_true_eq] at h ⊢
 obtain ⟨⟨⟨⟨⟨q, q4⟩, q5⟩, q6⟩, q7⟩, q8⟩ := h
 refine ⟨⟨⟨⟨⟨q, h0⟩, ?_⟩, q6⟩, q7⟩, q8⟩
 rw [if_neg (by omega), if_pos hp]; exact h1
theorem agedV_cases (x : Vl) (op v : Int) (a b : Bool) : agedV x op v a b = v ∨ (op = 15 ∨ op = 16 ∨ op = 17) ∧ 0 ≤ agedV x op v a b ∧ agedV x op v a b ≤ 1 := by
 by_cases h : op = 15 ∨ op = 16 ∨ op = 17
 ·refine .inr ⟨h, ?_⟩
  unfold agedV
  by_cases h15 : op = 15
  ·rw [if_pos h15]; exact bitI_le a
  ·rw [if_neg h15, if_pos (by omega)]; exact bitI_le b
 ·exact .inl (Cg x v a b h)
theorem bare_aged (x : Vl) : ∀ {f : Fml} {i : Bool}, A9 i f = true → A9 i (CG x f) = true
 | .mk op nm v b args, i, h => by
  obtain ⟨h1, h2, h3, h4⟩ := BS h
  have hsh := sh_iff.1 (sh_bare h)
  rw [aged_eq]
  refine bare_mk h1 (by rw [List.length_map]; exact shaped_val (shaped_zero h2) (agedV_cases x op v _ _)) h3 (fun e a hm => ?_) fun a hm => ?_
  ·obtain ⟨c, hc, rfl⟩ := List.mem_map.1 hm
   rw [aged_op]; exact hsh.2.1.2.2.2.2 e c hc
  ·obtain ⟨c, hc, rfl⟩ := List.mem_map.1 hm
   exact bare_aged x (h4 c hc)
theorem agedN_bare : ∀ (xs : List Vl) {f : Fml} {i : Bool}, A9 i f = true → A9 i (agedN xs f) = true
 | [], _, _, h => h
 | x :: xs, _, _, h => agedN_bare xs (bare_aged x h)
theorem dpL_le {n : Nat} : ∀ {l : List Fml}, dpL l ≤ n ↔ ∀ a ∈ l, dpF a ≤ n
 | [] => by simp [dpL]
 | a :: l => by rw [dpL, Nat.max_le, dpL_le]; simp
end Go.Proofs.YtkhhjdjmhbdjfaaGreatDoor
namespace Go.Proofs.YtkhhjdjmhbdjfaaGreatDoor
set_option linter.unusedVariables false
variable {mk : Prop} [MK mk]
theorem szL_cat : ∀ l m : List Fml, szL (l ++ m) = szL l + szL m
 | [], m => by simp [szL]
 | a :: l, m => by rw [List.cons_append, szL, szL, szL_cat l m]; omega
theorem sz_ins (a : Fml) : ∀ l : List Fml, szL (insF a l) ≤ szF a + szL l
 | [] => by simp [insF, szL]
 | c :: l => by
  have := sz_ins a l
  unfold insF
  split
  ·simp only [szL]; omega
  ·split
   ·simp only [szL]; omega
   ·simp only [szL]; omega
theorem sz_dist : ∀ l : List Fml, szL (Cp l) ≤ szL l
 | [] => Nat.le_refl _
 | a :: l => by
  have h1 := sz_ins a (Cp l)
  have h2 := sz_dist l
  show szL (insF a (Cp l)) ≤ szF a + szL l
  omega
theorem sz_flat (op : Int) : ∀ l : List Fml, szL (l.flatMap (Fl op)) ≤ szL l
 | [] => Nat.le_refl _
 | a :: l => by
  have h2 := sz_flat op l
  rw [List.flatMap_cons, szL_cat]
  have h1 : szL (Fl op a) ≤ szF a := by
   unfold Fl
   split
   ·rw [BW]; omega
   ·split
    ·simp [szL]
    ·simp [szL]
  simp only [szL]; omega
theorem sz_join {op : Int} (h : op = 5 ∨ op = 6) (l : List Fml) : szF (B1 op l) ≤ szL l + 1 := by
 rw [B4 h]
 have h1 := sz_dist (l.flatMap (Fl op))
 have h2 := sz_flat op l
 cases CE op l with
 | true => simp [conO, szF, szL]
 | false =>
  simp only [Bool.false_eq_true, if_false]
  rw [CZ]
  generalize Cp (l.flatMap (Fl op)) = d at h1
  cases oppB d with
  | true => simp [conO, szF, szL]
  | false =>
   match d, h1 with
   | [], _ => simp [conO, szF, szL]
   | [a], h1 => simp only [szL] at h1; simp only [Bool.false_eq_true, if_false]; omega
   | a :: c :: d, h1 => show szL (a :: c :: d) + 1 ≤ _; omega
theorem sz_getD {l : List Fml} {k : Nat} (h : k < l.length) : szF (l.getD k Af) ≤ szL l := by
 rw [List.getD_eq_getElem?_getD, List.getElem?_eq_getElem h]
 exact BY (List.getElem_mem h)
theorem canonOp_sz {op v : Int} {nm : List UInt8} {l : List Fml} (ha : A8 op l.length = true) : szF (BP op nm v l) ≤ szL l + 1 := by
 by_cases h56 : op = 5 ∨ op = 6
 ·unfold BP
  rw [if_pos h56]; exact sz_join h56 l
 have hn : szF (.mk op nm v 0 l) ≤ szL l + 1 := Nat.le_refl _
 by_cases e8 : op = 8
 ·subst e8
  have hl : l.length = 1 := by simpa [A8] using ha
  have := @sz_getD l 0 (by omega)
  rw [C7]; split
  ·omega
  ·exact hn
 by_cases e9 : op = 9
 ·subst e9
  have hl : l.length = 2 := by simpa [A8] using ha
  have := @sz_getD l 1 (by omega)
  rw [canonOp_9]; split
  ·omega
  ·exact hn
 by_cases e10 : op = 10
 ·subst e10
  have hl : l.length = 2 := by simpa [A8] using ha
  have := @sz_getD l 1 (by omega)
  rw [C3]; split
  ·omega
  ·exact hn
 rw [canonOp_E h56 e8 e9 e10]; exact hn
theorem szL_map (g : Fml → Fml) : ∀ l : List Fml, (∀ a ∈ l, szF (g a) ≤ szF a) → szL (l.map g) ≤ szL l
 | [], _ => Nat.le_refl _
 | a :: l, h => by
  have h1 := h a (by simp)
  have h2 := szL_map g l fun c hc => h c (by simp [hc])
  simp only [List.map_cons, szL]; omega
theorem canon_sz : ∀ {f : Fml}, Sh f → szF (Al f) ≤ szF f
 | .mk op nm v b args, h => by
  obtain ⟨_, h2, h3⟩ := sh_iff.1 h
  rw [CH]
  refine Nat.le_trans (canonOp_sz (by rw [List.length_map]; exact h2.2.1)) ?_
  have := szL_map Al args fun a ha => canon_sz (h3 a ha)
  show _ ≤ szL args + 1
  omega
theorem aged_sz (x : Vl) : ∀ f : Fml, szF (CG x f) = szF f
 | .mk op nm v b args => by
  rw [aged_eq]
  have : ∀ l : List Fml, (∀ a ∈ l, szF (CG x a) = szF a) → szL (l.map (CG x)) = szL l := by
   intro l
   induction l with
   | nil => intro _; rfl
   | cons a l ih => intro hl; rw [List.map_cons, szL, szL, hl a (by simp), ih fun c hc => hl c (by simp [hc])]
  show szL (args.map (CG x)) + 1 = szL args + 1
  rw [this args fun a _ => aged_sz x a]
theorem agedN_sz : ∀ (xs : List Vl) (f : Fml), szF (agedN xs f) = szF f
 | [], _ => rfl
 | x :: xs, f => by rw [agedN, agedN_sz xs, aged_sz]
theorem next_sz (f : Fml) : ∀ n, szF (CB n f) = szF f + n
 | 0 => rfl
 | n + 1 => by
  show szL [CB n f] + 1 = _
  simp only [szL]
  have := next_sz f n
  omega
theorem dp_sz : ∀ f : Fml, dpF f ≤ szF f
 | .mk op nm v b args => by
  have : dpL args ≤ szL args := dpL_le.2 fun a ha => Nat.le_trans (dp_sz a) (BY ha)
  show dpL args + 1 ≤ szL args + 1
  omega
mutual
def isB (k : List UInt8 → Int → Bool) : Fml → Bool
 | .mk op nm v _ args => (if op = 3 then k nm v else true) && isL k args
def isL (k : List UInt8 → Int → Bool) : List Fml → Bool
 | [] => true
 | a :: l => isB k a && isL k l
end
theorem isL_iff {k : List UInt8 → Int → Bool} : ∀ {l : List Fml}, isL k l = true ↔ ∀ a ∈ l, isB k a = true
 | [] => by simp [isL]
 | a :: l => by rw [isL, Bool.and_eq_true, isL_iff]; simp
theorem is_iff {k : List UInt8 → Int → Bool} {op v b : Int} {nm : List UInt8} {args : List Fml} : isB k (.mk op nm v b args) = true ↔ (op = 3 → k nm v = true) ∧ ∀ a ∈ args, isB k a = true := by
 rw [isB, Bool.and_eq_true, isL_iff]
 by_cases h : op = 3
 ·rw [if_pos h]; simp [h]
 ·rw [if_neg h]; simp [h]
theorem is_con (k : List UInt8 → Int → Bool) {op : Int} (h : op = 1 ∨ op = 2) : isB k (conO op) = true := by rcases h with rfl | rfl <;> rfl
theorem is_join {k : List UInt8 → Int → Bool} {op : Int} (h : op = 5 ∨ op = 6) {l : List Fml} (hl : ∀ c ∈ l, isB k c = true) : isB k (B1 op l) = true := by
 obtain ⟨u1, u2, u3, u4, u5⟩ := uz_ne h
 rw [B4 h]
 cases CE op l with
 | true => exact is_con k u4
 | false =>
  simp only [Bool.false_eq_true, if_false]
  rw [CZ]
  have hd : ∀ a ∈ Cp (l.flatMap (Fl op)), isB k a = true := by
   intro a ha
   rw [mem_dist, List.mem_flatMap] at ha
   obtain ⟨c, hc, ha⟩ := ha
   have hc2 := hl c hc
   unfold Fl at ha
   split at ha
   ·obtain ⟨o, nm, v, b, args⟩ := c
    exact (is_iff.1 hc2).2 a ha
   ·split at ha
    ·cases ha
    ·have : a = c := by simpa using ha
     subst this; exact hc2
  generalize Cp (l.flatMap (Fl op)) = d at hd
  cases oppB d with
  | true => exact is_con k u4
  | false =>
   match d, hd with
   | [], _ => exact is_con k u5
   | [a], hd => exact hd a (by simp)
   | a :: c :: d, hd => exact is_iff.2 ⟨fun e => by omega, hd⟩
theorem is_canon {k : List UInt8 → Int → Bool} : ∀ {f : Fml}, Sh f → isB k f = true → isB k (Al f) = true
 | .mk op nm v b args, h, hk => by
  obtain ⟨_, h2, h3⟩ := sh_iff.1 h
  obtain ⟨k1, k2⟩ := is_iff.1 hk
  have ih : ∀ a ∈ args.map Al, isB k a = true := fun a ha => by
   obtain ⟨c, hc, rfl⟩ := List.mem_map.1 ha
   exact is_canon (h3 c hc) (k2 c hc)
  rw [CH]
  by_cases h56 : op = 5 ∨ op = 6
  ·unfold BP
   rw [if_pos h56]; exact is_join h56 ih
  have hn : isB k (.mk op nm v 0 (args.map Al)) = true := is_iff.2 ⟨k1, ih⟩
  have hg : ∀ i, i < args.length → isB k ((args.map Al).getD i Af) = true := fun i hi => by
   have hi' : i < (args.map Al).length := by rw [List.length_map]; exact hi
   rw [List.getD_eq_getElem?_getD, List.getElem?_eq_getElem hi']
   exact ih _ (List.getElem_mem hi')
  have ha := h2.2.1
  by_cases e8 : op = 8
  ·subst e8
   have hl : args.length = 1 := by simpa [A8] using ha
   rw [C7]; split
   ·exact hg 0 (by omega)
   ·exact hn
  by_cases e9 : op = 9
  ·subst e9
   have hl : args.length = 2 := by simpa [A8] using ha
   rw [canonOp_9]; split
   ·exact hg 1 (by omega)
   ·exact hn
  by_cases e10 : op = 10
  ·subst e10
   have hl : args.length = 2 := by simpa [A8] using ha
   rw [C3]; split
   ·exact hg 1 (by omega)
   ·exact hn
  rw [canonOp_E h56 e8 e9 e10]; exact hn
theorem is_aged {k : List UInt8 → Int → Bool} (x : Vl) : ∀ {f : Fml}, isB k f = true → isB k (CG x f) = true
 | .mk op nm v b args, hk => by
  obtain ⟨k1, k2⟩ := is_iff.1 hk
  rw [aged_eq]
  refine is_iff.2 ⟨fun e => ?_, fun a ha => ?_⟩
  ·rw [Cg x v _ _ (by omega)]; exact k1 e
  ·obtain ⟨c, hc, rfl⟩ := List.mem_map.1 ha
   exact is_aged x (k2 c hc)
theorem is_next {k : List UInt8 → Int → Bool} {f : Fml} (h : isB k f = true) : ∀ n, isB k (CB n f) = true
 | 0 => h
 | n + 1 => is_iff.2 ⟨fun e => by omega, fun a ha => by
   have : a = CB n f := by simpa using ha
   subst this; exact is_next h n⟩
end Go.Proofs.YtkhhjdjmhbdjfaaGreatDoor
namespace Go.Proofs.YtkhhjdjmhbdjfaaGreatDoor
set_option linter.unusedVariables false
variable {mk : Prop} [MK mk]
def bitsN (p : Nat → Bool) : Nat → Nat
 | 0 => 0
 | n + 1 => bitsN p n ||| (if p n then 1 <<< n else 0)
theorem bits_test (p : Nat → Bool) (i : Nat) : ∀ n, (bitsN p n).testBit i = (decide (i < n) && p i)
 | 0 => by simp [bitsN]
 | n + 1 => by
  rw [bitsN, Nat.testBit_or, bits_test p i n]
  by_cases hn : i = n
  ·subst hn
   cases hp : p i with
   | true => simp [Nat.testBit_shiftLeft]
   | false => simp
  ·have e : (if p n then 1 <<< n else 0 : Nat).testBit i = false := by
    cases p n with
    | false => simp
    | true =>
     simp only [if_true, Nat.testBit_shiftLeft]
     by_cases h : n ≤ i
     ·have : i - n ≠ 0 := by omega
      obtain ⟨k, hk⟩ : ∃ k, i - n = k + 1 := ⟨i - n - 1, by omega⟩
      rw [hk]; simp [Nat.testBit_succ]
     ·simp [h]
   rw [e, Bool.or_false]
   congr 1
   rw [decide_eq_decide]; omega
theorem bits_lt (p : Nat → Bool) : ∀ n, bitsN p n < 2 ^ n
 | 0 => by simp [bitsN]
 | n + 1 => by
  rw [bitsN]
  have h1 := bits_lt p n
  have h2 : 2 ^ n < 2 ^ (n + 1) := Nat.pow_lt_pow_right (by omega) (by omega)
  refine Nat.or_lt_two_pow (by omega) ?_
  split
  ·rw [Nat.shiftLeft_eq, Nat.one_mul]; exact h2
  ·exact Nat.two_pow_pos _
theorem cmp_eq {f g : Fml} : decide (BV f g = 0) = true ↔ f = g := by rw [decide_eq_true_eq, Bt]
def Cz (l : List Fml) (g : Fml) : Option Nat := l.findIdx? fun h => decide (BV h g = 0)
theorem findN_some {l : List Fml} {g : Fml} {i : Nat} (h : Cz l g = some i) : l[i]? = some g := by
 unfold Cz at h
 rw [List.findIdx?_eq_some_iff_getElem] at h
 obtain ⟨h1, h2, _⟩ := h
 rw [List.getElem?_eq_getElem h1, cmp_eq.1 h2]
theorem findN_mem {l : List Fml} {g : Fml} (h : g ∈ l) : ∃ i, Cz l g = some i := by
 cases hf : Cz l g with
 | some i => exact ⟨i, rfl⟩
 | none =>
  unfold Cz at hf
  rw [List.findIdx?_eq_none_iff] at hf
  have := hf g h
  rw [cmp_eq.2 rfl] at this; cases this
def addN (l : List Fml) (g : Fml) : List Fml := match Cz l g with
 | some _ => l
 | none => l ++ [g]
def BQ (f : Fml) : List Fml := (pnF f).foldl addN []
theorem mem_addN {l : List Fml} {g x : Fml} : x ∈ addN l g ↔ x ∈ l ∨ x = g := by
 unfold addN
 cases h : Cz l g with
 | none => simp
 | some i =>
  have := List.mem_of_getElem? (findN_some h)
  constructor
  ·exact .inl
  ·rintro (h | rfl)
   ·exact h
   ·exact this
theorem mem_foldN {x : Fml} : ∀ (m l : List Fml), x ∈ m.foldl addN l ↔ x ∈ l ∨ x ∈ m
 | [], l => by simp
 | g :: m, l => by
  rw [List.foldl_cons, mem_foldN m, mem_addN]
  simp [or_assoc]
theorem mem_nodes {f x : Fml} : x ∈ BQ f ↔ x ∈ pnF f := by
 unfold BQ
 rw [mem_foldN]; simp
def BI (nodes : List Fml) (m : Nat) (g : Fml) : Bool := match Cz nodes g with
 | some i => m.testBit i
 | none => false
theorem now_congr (x : Vl) {p q : Fml → Bool} : ∀ {f : Fml}, (∀ g ∈ pnF f, p g = q g) → B5 x p f = B5 x q f
 | .mk op nm v b args, h => by
  rw [pnF_eq] at h
  rw [B5, B5, nowGL_eq, nowGL_eq]
  have e1 : args.map (B5 x p) = args.map (B5 x q) := List.map_congr_left fun a ha => now_congr x fun g hg => h g (List.mem_append_left _ (List.mem_flatMap.2 ⟨a, ha, hg⟩))
  rw [e1]
  cases hr : Cm op with
  | true =>
   have := h (.mk op nm v b args) (by rw [hr]; simp)
   rw [this]
  | false =>
   simp only [Cm, Bool.or_eq_false_iff, decide_eq_false_iff_not] at hr
   simp only [CO, hr.1.1, hr.1.2, hr.2, if_false]
theorem pn_trans : ∀ {f g h : Fml}, g ∈ pnF f → h ∈ pnF g → h ∈ pnF f
 | .mk op nm v b args, g, h, hg, hh => by
  rw [pnF_eq] at hg ⊢
  rcases List.mem_append.1 hg with hg | hg
  ·obtain ⟨a, ha, hg⟩ := List.mem_flatMap.1 hg
   exact List.mem_append_left _ (List.mem_flatMap.2 ⟨a, ha, pn_trans hg hh⟩)
  ·cases hr : Cm op with
   | false => rw [hr] at hg; cases hg
   | true =>
    rw [hr] at hg
    have : g = .mk op nm v b args := by simpa using hg
    subst this
    rw [pnF_eq, hr] at hh
    exact hh
theorem pn_arg {f g : Fml} (h : g ∈ pnF (f.args.getD 0 Af)) (hl : 0 < f.args.length) : g ∈ pnF f := by
 obtain ⟨op, nm, v, b, args⟩ := f
 rw [pnF_eq]
 have hl' : 0 < args.length := hl
 refine List.mem_append_left _ (List.mem_flatMap.2 ⟨args.getD 0 Af, ?_, h⟩)
 rw [List.getD_eq_getElem?_getD, List.getElem?_eq_getElem hl']; exact List.getElem_mem hl'
theorem pn_rem : ∀ {f g : Fml}, g ∈ pnF f → Cm g.op = true
 | .mk op nm v b args, g, hg => by
  rw [pnF_eq] at hg
  rcases List.mem_append.1 hg with hg | hg
  ·obtain ⟨a, _, hg⟩ := List.mem_flatMap.1 hg
   exact pn_rem hg
  ·cases hr : Cm op with
   | false => rw [hr] at hg; cases hg
   | true =>
    rw [hr] at hg
    have : g = .mk op nm v b args := by simpa using hg
    subst this; exact hr
theorem pn_sub {p : Fml → Prop} (hp : ∀ {op v b : Int} {nm : List UInt8} {args : List Fml}, p (.mk op nm v b args) → ∀ a ∈ args, p a) : ∀ {f g : Fml}, p f → g ∈ pnF f → p g
 | .mk op nm v b args, g, h, hg => by
  rw [pnF_eq] at hg
  rcases List.mem_append.1 hg with hg | hg
  ·obtain ⟨a, ha, hg⟩ := List.mem_flatMap.1 hg
   exact pn_sub hp (hp h a ha) hg
  ·cases hr : Cm op with
   | false => rw [hr] at hg; cases hg
   | true =>
    rw [hr] at hg
    have : g = .mk op nm v b args := by simpa using hg
    subst this; exact h
theorem pn_sh {f g : Fml} (h : Sh f) (hg : g ∈ pnF f) : Sh g := pn_sub (p := Sh) (fun h a ha => (sh_iff.1 h).2.2 a ha) h hg
theorem bare_pn {f g : Fml} (h : ∃ i, A9 i f = true) (hg : g ∈ pnF f) : ∃ i, A9 i g = true :=
 pn_sub (p := fun f => ∃ i, A9 i f = true) (fun ⟨_, h⟩ a ha => ⟨_, (BS h).2.2.2 a ha⟩) h hg
def nextI (x : Vl) (nodes : List Fml) (m : Nat) : Nat := bitsN (fun i => nextM x (BI nodes m) (nodes.getD i Af)) nodes.length
theorem says_next (x : Vl) {nodes : List Fml} {m : Nat} {g : Fml} (h : g ∈ nodes) : BI nodes (nextI x nodes m) g = nextM x (BI nodes m) g := by
 obtain ⟨i, hi⟩ := findN_mem h
 have hg := findN_some hi
 have hl := (List.getElem?_eq_some_iff.1 hg).1
 unfold BI
 rw [hi]
 show (nextI x nodes m).testBit i = _
 unfold nextI
 rw [bits_test, decide_eq_true hl, Bool.true_and, List.getD_eq_getElem?_getD, hg]; rfl
def startI (nodes : List Fml) : Nat := bitsN (fun i => decide ((nodes.getD i Af).val = 1)) nodes.length
theorem says_start {nodes : List Fml} {g : Fml} (h : g ∈ nodes) : BI nodes (startI nodes) g = decide (g.val = 1) := by
 obtain ⟨i, hi⟩ := findN_mem h
 have hg := findN_some hi
 have hl := (List.getElem?_eq_some_iff.1 hg).1
 unfold BI
 rw [hi]
 show (startI nodes).testBit i = _
 unfold startI
 rw [bits_test, decide_eq_true hl, Bool.true_and, List.getD_eq_getElem?_getD, hg]; rfl
def memI (nodes : List Fml) : List Vl → Nat → Nat
 | [], m => m
 | x :: xs, m => memI nodes xs (nextI x nodes m)
theorem nextM_congr (x : Vl) {p q : Fml → Bool} {g : Fml} (hs : Sh g) (h : ∀ k ∈ pnF g, p k = q k) : nextM x p g = nextM x q g := by
 unfold nextM
 split
 ·rename_i h15
  have hl : 0 < g.args.length := by
   have := (sh_eq hs).2.1.2.1
   rw [h15] at this
   have : g.args.length = 1 := by simpa [A8] using this
   omega
  exact now_congr x fun k hk => h k (pn_arg hk hl)
 ·exact now_congr x h
theorem says_mem {f : Fml} (hs : Sh f) : ∀ (xs : List Vl) (m : Nat) (M : Fml → Bool), (∀ g ∈ pnF f, BI (BQ f) m g = M g) → ∀ g ∈ pnF f, BI (BQ f) (memI (BQ f) xs m) g = memM xs M g
 | [], m, M, h, g, hg => h g hg
 | x :: xs, m, M, h, g, hg => by
  refine says_mem hs xs (nextI x (BQ f) m) (nextM x M) (fun k hk => ?_) g hg
  rw [says_next x (mem_nodes.2 hk)]
  exact nextM_congr x (pn_sh hs hk) fun j hj => h j (pn_trans hk hj)
theorem put_aged {f : Fml} {i : Bool} (hb : A9 i f = true) (xs : List Vl) : chF (fun g => bitI (BI (BQ f) (memI (BQ f) xs (startI (BQ f))) g)) f = agedN xs f := by
 have hs := sh_bare hb
 have h1 := says_mem hs xs (startI (BQ f)) (fun g => decide (g.val = 1)) fun g hg => says_start (mem_nodes.2 hg)
 have e1 : chF (fun g => bitI (BI (BQ f) (memI (BQ f) xs (startI (BQ f))) g)) f = chF (fun g => bitI (memM xs (fun g => decide (g.val = 1)) g)) f := chF_congr fun g hg => by rw [h1 g hg]
 rw [e1, ← aged_mem xs _ hs]
 congr 1
 refine chF_self fun g hg => ?_
 have hv : g.val = 0 ∨ g.val = 1 := by
  obtain ⟨j, hj⟩ := bare_pn ⟨i, hb⟩ hg
  have hr := pn_rem hg
  obtain ⟨op, nm, v, b, args⟩ := g
  simp only [Cm, Bool.or_eq_true, decide_eq_true_eq] at hr
  have h2 := (BS hj).2.1
  simp only [BX, Bool.and_eq_true, decide_eq_true_eq] at h2
  obtain ⟨⟨⟨⟨⟨⟨⟨q1, q2⟩, q3⟩, q4⟩, q5⟩, q6⟩, q7⟩, q8⟩ := h2
  have hr' : op = 15 ∨ op = 16 ∨ op = 17 := by
   have : (Fml.mk op nm v b args).op = op := rfl
   omega
  rw [if_neg (by omega), if_pos hr'] at q5
  show v = 0 ∨ v = 1
  omega
 rcases hv with e | e <;> rw [e] <;> rfl
end Go.Proofs.YtkhhjdjmhbdjfaaGreatDoor
namespace Go.Proofs.YtkhhjdjmhbdjfaaGreatDoor
open Go.RowKit
set_option linter.unusedVariables false
variable {mk : Prop} [MK mk]
theorem SlAt.pf {ok : Nat → Prop} {w : World} {a : Option Addr} {n c : Nat} {l : List Fml} {k : Nat} {x : Fml} (h : SlAt fmlR ok w (.slice a n c) l) (hx : l[k]? = some x) : ∃ b o, a = some ⟨b, o, none⟩ ∧ PF ok w b (o + k * 5) x := by
 obtain ⟨a', c', L, e, hS, hF⟩ := h
 cases e
 have hj := (List.getElem?_eq_some_iff.1 hx).1
 obtain ⟨d, hd⟩ : ∃ d, L[k]? = some d := ⟨_, List.getElem?_eq_getElem (by rw [hF.1]; exact hj)⟩
 obtain ⟨b, o, rfl, hb, hc⟩ := hS.recs hF (sz := 5) rfl hd hj
 have hfit := hF.2 k d x hd hx
 exact ⟨b, o, rfl, hb, d, hfit.1, hc, hfit.2⟩
def findI (l : List Fml) (g : Fml) : Int := match Cz l g with
 | some i => i
 | none => -1
theorem findN_at {g : Fml} : ∀ {l : List Fml} {k : Nat} {y : Fml}, l[k]? = some y → BV y g = 0 → (∀ i z, i < k → l[i]? = some z → BV z g ≠ 0) → Cz l g = some k
 | [], _, _, h, _, _ => by simp at h
 | x :: l, 0, y, h, h0, _ => by
  simp at h; subst h
  simp [Cz, List.findIdx?_cons, h0]
 | x :: l, k + 1, y, h, h0, hn => by
  have hx := hn 0 x (by omega) rfl
  have := findN_at (l := l) (k := k) (y := y) (by simpa using h) h0 fun i z hi hz => hn (i + 1) z (by omega) (by simpa using hz)
  simp only [Cz] at this ⊢
  simp [List.findIdx?_cons, hx, this]
theorem findN_not {g : Fml} {l : List Fml} (hn : ∀ (i : Nat) (z : Fml), l[i]? = some z → BV z g ≠ 0) : Cz l g = none := by
 simp only [Cz, List.findIdx?_eq_none_iff, decide_eq_false_iff_not]
 intro x hx
 obtain ⟨i, hi⟩ := List.getElem?_of_mem hx
 exact hn i x hi
theorem find_ok (w : World) (v : Value) (l : List Fml) (b o : Nat) (g : Fml) (okl okg : Nat → Prop) (hl : SlAt fmlR okl w v l) (hg : PF okg w b o g) (hu : (∀ b, okl b → Unm w b) ∨ (∀ b, okg b → Unm w b)) (hz : ∀ x ∈ l, szF x ≤ 1000000) :
  Fn Tryz.prog 25 [v, .pointer (some ⟨b, o, none⟩)] w fun u w' => u = .int .i64 (findI l g) ∧ Ext w w' := by
 obtain ⟨a, c, rfl, hlm⟩ := hl.len
 have hll := hl.lt (show (0 : Nat) < 5 by omega)
 have hgl := hg.lt
 refine AR Tryz.func25 rfl Tryz.ntmps25 (Nat.le_of_ble_eq_true rfl) (by kernel_rfl) ?_
 repeat refine nx rfl ?_
 refine AA (AC (AG rfl ?_))
 repeat refine nx rfl ?_
 refine AA (AM rfl (AZ rfl (AG rfl ?_)))
 repeat refine nx rfl ?_
 refine A3 (α := Nat) (fun k => [(0, .slice a l.length c), (1, .pointer (some ⟨b, o, none⟩)), (7, .int .i64 (l.length : Int)), (8, .int .i64 (k : Int))]) (fun k W => k ≤ l.length ∧ Ext w W ∧ ∀ i z, i < k → l[i]? = some z → BV z g ≠ 0) (fun k => l.length - k) 0 ⟨rfl, rfl, rfl, rfl, trivial⟩ ⟨by omega, Ext.refl _, fun i z hi => by omega⟩ ?_
 rintro k W fr ⟨hk, kW, hn⟩
 repeat refine nx rfl ?_
 by_cases hlt : k < l.length
 ·refine AA (At rfl rfl (by omega) ?_)
  repeat refine nx rfl ?_
  refine AA (AG rfl (AC (AG rfl ?_)))
  repeat refine nx rfl ?_
  obtain ⟨x, hx⟩ : ∃ x, l[k]? = some x := ⟨_, List.getElem?_eq_getElem hlt⟩
  have hlW := hll.ext kW
  have hgW := hgl.keep kW (fun _ _ => by simp)
  obtain ⟨b', o', rfl, hb', d, hd, hc, hfx⟩ := hlW.pf hx
  obtain ⟨x0, x1, x2, x3, x4, rfl⟩ := A7 hd
  obtain ⟨hb, d', hd', hc', hfg⟩ := hgW
  obtain ⟨y0, y1, y2, y3, y4, rfl⟩ := A7 hd'
  refine Ad (.read 0 (.read 1 (.read 2 (.read 3 (.read 4 (.read 5 (.read 6 (.alt 7 (.read 8 .done) .stop)))))))) Ax (by kernel_rfl) (fun wd kd ed => ⟨Ext wd, ?_, ?_⟩)
  ·exact Ext.refl _
  have ca : ∀ V, Ext wd V → Cells V b' (o' + k * 5) [x0, x1, x2, x3, x4] := fun V e => hc.keep (kd.trans e) (by simp)
  have cb : ∀ V, Ext wd V → Cells V b o [y0, y1, y2, y3, y4] := fun V e => hc'.keep (kd.trans e) (by simp)
  (refine D_R rfl rfl (fun W hW => AM rfl Z3) (D_R rfl rfl (fun W hW => AG rfl Z3) (D_R rfl rfl (fun W hW => Au rfl rfl rfl (by omega) Z3) ?_)) <;> (apply D_R rfl rfl; (intro W hW; refine Ao rfl (by rfl) (ca W hW) ?_; exact Z3)) <;> refine D_R rfl rfl (fun W hW => AP rfl Z3) (D_R rfl rfl (fun W hW => AH rfl Z3) ?_) <;> (apply D_R rfl rfl; (intro W hW; refine Ao rfl (by rfl) (cb W hW) ?_; exact Z3)))
  refine D_E rfl ?_
  refine AQ (fcompare_ok wd _ _ x g _ _ (hfx.ext kd) (hfg.ext kd) ?_ (hz x (List.mem_of_getElem? hx))) rfl ?_
  ·rcases hu with h | h
   ·exact .inl fun b hb => (h b hb.1).eq ((kW.trans kd).block b hb.2 (by simp))
   ·exact .inr fun b hb => (h b hb.1).eq ((kW.trans kd).block b hb.2 (by simp))
  rintro _ w4 ⟨rfl, k4⟩
  refine AO ⟨Ext wd, fun _ e => e, k4, ?_⟩
  have k5 := (kW.trans kd).trans k4
  by_cases h0 : BV x g = 0
  ·refine D_eqlT rfl rfl rfl rfl (by omega) (Ah ?_)
   repeat refine nx rfl ?_
   refine AA (AG rfl (AC (AG rfl ?_)))
   repeat refine nx rfl ?_
   exact AI rfl ⟨by show Value.int .i64 (k : Int) = _; unfold findI; rw [findN_at hx h0 hn], k5⟩
  ·refine D_eqlF rfl rfl rfl rfl (by omega) (Ah ?_)
   repeat first | refine nx rfl ?_ | refine nf rfl ?_
   (refine AA (Av rfl rfl (by first | exact AV (by omega) (by omega) | exact AY (by omega) (by omega) | exact AW (by omega) (by omega)) ?_) <;> refine AG rfl ?_)
   repeat refine nx rfl ?_
   refine ⟨k + 1, ⟨rfl, ⟨rfl, rfl, rfl, ?_, trivial⟩, ⟨by omega, k5, fun i z hi hz => ?_⟩⟩, by omega⟩
   ·show Value.int .i64 ((k : Int) + 1) = _
    rw [Int.natCast_add]; rfl
   ·by_cases hik : i = k
    ·subst hik; rw [hx] at hz; cases hz; exact h0
    ·exact hn i z (by omega) hz
 ·refine AA (Aj rfl rfl (by omega) ?_)
  repeat first | refine nx rfl ?_ | refine nf rfl ?_
  refine AA (AC (AG rfl ?_))
  repeat refine nx rfl ?_
  exact AI rfl ⟨by show Value.int .i64 (-1) = _; unfold findI; rw [findN_not fun i z hi => hn i z (by have := (List.getElem?_eq_some_iff.1 hi).1; omega) hi], kW⟩
end Go.Proofs.YtkhhjdjmhbdjfaaGreatDoor
namespace Go.Proofs.YtkhhjdjmhbdjfaaGreatDoor
open Go.RowKit
set_option linter.unusedVariables false
variable {mk : Prop} [MK mk]
def pastN (x : Nd) : Bool := !(BR x.1.op).future
def layN (x : Nd) : Bool := !((BR x.1.op).future && x.2)
def pastG (f : Fml) : Bool := (Ct false f).all pastN
def layG (f : Fml) : Bool := (Ct false f).all layN
def validG (f : Fml) : Bool := decide (szF f ≤ 60) && decide (dpF f ≤ 20) && (Ct false f).all fun x => shapeF x.1
theorem fpast_ok (w : World) (v : Value) (f : Fml) (hf : FAt As w v f) (hG : GF w) (hN : 3 ≤ w.heap.size) (hd : dpF f ≤ 5000) : Fn Tryz.prog 60 [v] w fun u w' => u = .bool (pastG f) ∧ Ext w w' := by
 have hflt := hf.lt
 obtain ⟨cs, rfl, hcs, hone⟩ := hf.cells
 refine CK Tryz.func60 rfl Tryz.ntmps60 (Nat.le_of_ble_eq_true rfl) (by kernel_rfl) ?_
 repeat refine nx rfl ?_
 (refine AA ?_; refine A5 (L := cs) rfl (fun w1 n1 => ?_))
 refine Ar (fun w2 n2 => ?_)
 repeat refine nx rfl ?_
 have z1 := n1.size
 have z2 := n2.size
 have b1 := n1.blk.keep n2.keep (by simp)
 have b2 : Blk w2 w1.heap.size 4 [.bool false] := n2.blk
 have k2 := n1.keep.trans n2.keep
 have hf2 : PF (fun b => b ≠ w1.heap.size) w2 w.heap.size 0 f := ⟨by omega, cs, hcs, b1.cells, (hflt.ext k2).mono fun x hx => by have := hx.2; omega⟩
 refine AA ?_
 refine AQ (nodes_ok w2 w.heap.size 0) rfl ?_
 rintro _ w4 ⟨rfl, n4⟩
 repeat refine nx rfl ?_
 refine C_allNodes pastN rfl (by kernel_rfl) rfl (b2.keep n4.keep (by simp)) n4.blk (hf2.keep n4.keep (fun _ _ => by simp)) (hG.ext (k2.trans n4.keep)) (by omega) hd (fun l b' o' x i W hsz => ?_) (fun W kW bW dW => ?_)
 ·repeat refine nx rfl ?_
  refine AA (AC (AP rfl ?_))
  repeat refine nx rfl ?_
  refine ⟨rfl, fun W2 e2 hx hb => ?_⟩
  have hG2 := hG.ext ((k2.trans n4.keep).trans e2)
  repeat refine nx rfl ?_
  have c0 := hx.opc
  refine AA (AP rfl (AH rfl (AD rfl (AF rfl (by assumption) ?_))))
  refine AQ (formOf_ok W2 x.op hG2) rfl ?_
  rintro _ W3 ⟨rfl, e3⟩
  refine Cj rfl (BA rfl rfl (BA rfl rfl ?_))
  refine Cv (cs := Bj (BR x.op)) rfl rfl (by rfl) (formC_one _) (fun W4 n5 => ?_)
  refine AC (AB rfl ?_)
  repeat refine nx rfl ?_
  have bx := n5.blk
  have e4 := e3.trans n5.keep
  have hp : pastN (x, i) = !(BR x.op).future := rfl
  rw [hp]
  generalize BR x.op = y at bx ⊢
  obtain ⟨xl, xm, xv, xb, xn, xp, xf, xo⟩ := y
  cases xf with
  | true =>
   (refine AA (AD rfl (AF rfl (Blk.cell (by assumption) (by rfl)) ?_)))
   repeat refine nx rfl ?_
   refine AA ?_
   refine Aa (v := .bool false) rfl rfl rfl (hb.keep e4 (by simp)) (by simp) (fun W5 p5 => ?_)
   repeat refine nx rfl ?_
   exact ⟨rfl, e4.any.trans p5.keep (fun _ h _ => h), p5.blk⟩
  | false =>
   (refine AA (AD rfl (AF rfl (Blk.cell (by assumption) (by rfl)) ?_)))
   repeat first | refine nx rfl ?_ | refine nf rfl ?_
   exact ⟨rfl, e4⟩
 ·have z4 := n4.size
  unfold pastG
  have e9 : Ext w W := (k2.trans n4.keep).keep kW (fun x hx => by simp at hx; omega)
  cases hp : (Ct false f).all pastN with
  | true =>
   rw [if_pos rfl]
   repeat refine nx rfl ?_
   refine AA ?_
   refine Aa (v := .bool true) rfl rfl rfl bW (by simp) (fun W5 p5 => ?_)
   repeat refine nx rfl ?_
   refine Bl ((p5.keep.block _ (Array.getElem?_eq_some_iff.1 dW).1 (by simp; omega)).trans dW) fun w9 k9 s9 => ?_
   exact BU (CL rfl ((p5.blk.keep k9 (by simp; omega)).cell (o := 0) rfl) ⟨rfl, (e9.keep p5.keep (fun x hx => by simp at hx; omega)).keep k9 (fun x hx => by simp at hx; omega)⟩)
  | false =>
   rw [if_neg (by simp)]
   repeat refine nx rfl ?_
   refine Bl dW fun w9 k9 s9 => ?_
   exact BU (CL rfl ((bW.keep k9 (by simp; omega)).cell (o := 0) rfl) ⟨rfl, e9.keep k9 (fun x hx => by simp at hx; omega)⟩)
theorem flay_ok (w : World) (v : Value) (f : Fml) (hf : FAt As w v f) (hG : GF w) (hN : 3 ≤ w.heap.size) (hd : dpF f ≤ 5000) : Fn Tryz.prog 96 [v] w fun u w' => u = .bool (layG f) ∧ Ext w w' := by
 have hflt := hf.lt
 obtain ⟨cs, rfl, hcs, hone⟩ := hf.cells
 refine CK Tryz.func96 rfl Tryz.ntmps96 (Nat.le_of_ble_eq_true rfl) (by kernel_rfl) ?_
 repeat refine nx rfl ?_
 (refine AA ?_; refine A5 (L := cs) rfl (fun w1 n1 => ?_))
 refine Ar (fun w2 n2 => ?_)
 repeat refine nx rfl ?_
 have z1 := n1.size
 have z2 := n2.size
 have b1 := n1.blk.keep n2.keep (by simp)
 have b2 : Blk w2 w1.heap.size 4 [.bool false] := n2.blk
 have k2 := n1.keep.trans n2.keep
 have hf2 : PF (fun b => b ≠ w1.heap.size) w2 w.heap.size 0 f := ⟨by omega, cs, hcs, b1.cells, (hflt.ext k2).mono fun x hx => by have := hx.2; omega⟩
 refine AA ?_
 refine AQ (nodes_ok w2 w.heap.size 0) rfl ?_
 rintro _ w4 ⟨rfl, n4⟩
 repeat refine nx rfl ?_
 refine C_allNodes layN rfl (by kernel_rfl) rfl (b2.keep n4.keep (by simp)) n4.blk (hf2.keep n4.keep (fun _ _ => by simp)) (hG.ext (k2.trans n4.keep)) (by omega) hd (fun l b' o' x i W hsz => ?_) (fun W kW bW dW => ?_)
 ·repeat refine nx rfl ?_
  refine AA (AC (AP rfl ?_))
  repeat refine nx rfl ?_
  refine AA (AC (AB rfl ?_))
  repeat refine nx rfl ?_
  refine ⟨rfl, fun W2 e2 hx hb => ?_⟩
  have hG2 := hG.ext ((k2.trans n4.keep).trans e2)
  repeat refine nx rfl ?_
  have c0 := hx.opc
  refine AA (AP rfl (AH rfl (AD rfl (AF rfl (by assumption) ?_))))
  refine AQ (formOf_ok W2 x.op hG2) rfl ?_
  rintro _ W3 ⟨rfl, e3⟩
  refine Cj rfl (BA rfl rfl (BA rfl rfl ?_))
  refine Cv (cs := Bj (BR x.op)) rfl rfl (by rfl) (formC_one _) (fun W4 n5 => ?_)
  refine AC (AB rfl ?_)
  repeat refine nx rfl ?_
  have bx := n5.blk
  have e4 := e3.trans n5.keep
  have hp : layN (x, i) = !((BR x.op).future && i) := rfl
  rw [hp]
  generalize BR x.op = y at bx ⊢
  obtain ⟨xl, xm, xv, xb, xn, xp, xf, xo⟩ := y
  cases xf <;> cases i
  case true.true =>
   (refine AA (AD rfl (AF rfl (Blk.cell (by assumption) (by rfl)) ?_)) <;> refine AB rfl (AE rfl (AB rfl (AK rfl (AB rfl ?_)))))
   repeat refine nx rfl ?_
   refine AA ?_
   refine Aa (v := .bool false) rfl rfl rfl (hb.keep e4 (by simp)) (by simp) (fun W5 p5 => ?_)
   repeat refine nx rfl ?_
   exact ⟨rfl, e4.any.trans p5.keep (fun _ h _ => h), p5.blk⟩
  all_goals
   (refine AA (AD rfl (AF rfl (Blk.cell (by assumption) (by rfl)) ?_)) <;> refine AB rfl ?_ <;> (first | refine AL rfl ?_ | (refine AE rfl ?_; refine AB rfl ?_)) <;> ((first | refine AK rfl ?_ | refine AJ rfl ?_); refine AB rfl ?_))
   repeat first | refine nx rfl ?_ | refine nf rfl ?_
   exact ⟨rfl, e4⟩
 ·have z4 := n4.size
  unfold layG
  have e9 : Ext w W := (k2.trans n4.keep).keep kW (fun x hx => by simp at hx; omega)
  cases hp : (Ct false f).all layN with
  | true =>
   rw [if_pos rfl]
   repeat refine nx rfl ?_
   refine AA ?_
   refine Aa (v := .bool true) rfl rfl rfl bW (by simp) (fun W5 p5 => ?_)
   repeat refine nx rfl ?_
   refine Bl ((p5.keep.block _ (Array.getElem?_eq_some_iff.1 dW).1 (by simp; omega)).trans dW) fun w9 k9 s9 => ?_
   exact BU (CL rfl ((p5.blk.keep k9 (by simp; omega)).cell (o := 0) rfl) ⟨rfl, (e9.keep p5.keep (fun x hx => by simp at hx; omega)).keep k9 (fun x hx => by simp at hx; omega)⟩)
  | false =>
   rw [if_neg (by simp)]
   repeat refine nx rfl ?_
   refine Bl dW fun w9 k9 s9 => ?_
   exact BU (CL rfl ((bW.keep k9 (by simp; omega)).cell (o := 0) rfl) ⟨rfl, e9.keep k9 (fun x hx => by simp at hx; omega)⟩)
theorem fvalid_ok (w : World) (v : Value) (f : Fml) (hf : FAt As w v f) (hG : GF w) (hK : KY w) (hN : 3 ≤ w.heap.size) : Fn Tryz.prog 95 [v] w fun u w' => u = .bool (validG f) ∧ Ext w w' := by
 have hflt := hf.lt
 obtain ⟨cs, rfl, hcs, hone⟩ := hf.cells
 refine CK Tryz.func95 rfl Tryz.ntmps95 (Nat.le_of_ble_eq_true rfl) (by kernel_rfl) ?_
 repeat refine nx rfl ?_
 (refine AA ?_; refine A5 (L := cs) rfl (fun w1 n1 => ?_))
 refine Ar (fun w2 n2 => ?_)
 repeat refine nx rfl ?_
 have z1 := n1.size
 have z2 := n2.size
 have b1 := n1.blk.keep n2.keep (by simp)
 have b2 : Blk w2 w1.heap.size 4 [.bool false] := n2.blk
 have k2 := n1.keep.trans n2.keep
 have hf2 : PF (fun b => b ≠ w1.heap.size) w2 w.heap.size 0 f := ⟨by omega, cs, hcs, b1.cells, (hflt.ext k2).mono fun x hx => by have := hx.2; omega⟩
 refine AA ?_
 refine AQ (within_ok w2 w.heap.size 0 f 60 20 (by omega) (by omega) ⟨by omega, cs, hcs, b1.cells, (hflt.ext k2).mono fun x hx => by have := hx.2; omega⟩) rfl ?_
 rintro _ w3 ⟨rfl, k3⟩
 unfold validG
 cases hsz : (decide (szF f ≤ 60) && decide (dpF f ≤ 20)) with
 | false =>
  refine Ak rfl ?_
  repeat refine nx rfl ?_
  refine AA ?_
  refine Aa (v := .bool false) rfl rfl rfl (b2.keep k3 (by simp)) (by simp) (fun W5 p5 => ?_)
  repeat refine nx rfl ?_
  exact BU (CL rfl (p5.blk.cell (o := 0) rfl) ⟨rfl, (k2.trans k3).keep p5.keep (by simp; omega)⟩)
 | true =>
 simp at hsz
 refine Ak rfl ?_
 repeat first | refine nx rfl ?_ | refine nf rfl ?_
 refine AA ?_
 refine AQ (nodes_ok w3 w.heap.size 0) rfl ?_
 rintro _ w4 ⟨rfl, n4⟩
 repeat refine nx rfl ?_
 have z3 := k3.size
 refine C_allNodes (fun x => shapeF x.1) rfl (by kernel_rfl) rfl (b2.keep (k3.trans n4.keep) (by simp)) n4.blk (hf2.keep (k3.trans n4.keep) (fun _ _ => by simp)) (hG.ext ((k2.trans k3).trans n4.keep)) (by omega) (by omega) (fun l b' o' x i W hsx => ?_) (fun W kW bW dW => ?_)
 ·repeat refine nx rfl ?_
  refine AA (AC (AP rfl ?_))
  repeat refine nx rfl ?_
  refine ⟨rfl, fun W2 e2 hx hb => ?_⟩
  have ee := ((k2.trans k3).trans n4.keep).trans e2
  have hla := CQ x.args
  have hsx' := BW x
  repeat refine nx rfl ?_
  refine AA (AP rfl ?_)
  refine AQ (shaped_ok W2 b' o' x (hx.mono fun _ _ => trivial) (hG.ext ee) (hK.keep ee (by simp)) (by omega)) rfl ?_
  rintro _ W4 ⟨rfl, e4⟩
  show AX _ _ _ _ _ _ _ _
  cases hp : shapeF x with
  | false =>
   refine Ak rfl ?_
   repeat refine nx rfl ?_
   refine AA ?_
   refine Aa (v := .bool false) rfl rfl rfl (hb.keep e4 (by simp)) (by simp) (fun W5 p5 => ?_)
   repeat refine nx rfl ?_
   exact ⟨rfl, e4.any.trans p5.keep (fun _ h _ => h), p5.blk⟩
  | true =>
   refine Ak rfl ?_
   repeat first | refine nx rfl ?_ | refine nf rfl ?_
   exact ⟨rfl, e4⟩
 ·have z4 := n4.size
  have e9 : Ext w W := ((k2.trans k3).trans n4.keep).keep kW (fun x hx => by simp at hx; omega)
  cases hp : (Ct false f).all (fun x => shapeF x.1) with
  | true =>
   rw [if_pos rfl]
   repeat refine nx rfl ?_
   refine AA ?_
   refine Aa (v := .bool true) rfl rfl rfl bW (by simp) (fun W5 p5 => ?_)
   repeat refine nx rfl ?_
   refine Bl ((p5.keep.block _ (Array.getElem?_eq_some_iff.1 dW).1 (by simp; omega)).trans dW) fun w9 k9 s9 => ?_
   exact BU (CL rfl ((p5.blk.keep k9 (by simp; omega)).cell (o := 0) rfl) ⟨rfl, (e9.keep p5.keep (fun x hx => by simp at hx; omega)).keep k9 (fun x hx => by simp at hx; omega)⟩)
  | false =>
   rw [if_neg (by simp)]
   repeat refine nx rfl ?_
   refine Bl dW fun w9 k9 s9 => ?_
   exact BU (CL rfl ((bW.keep k9 (by simp; omega)).cell (o := 0) rfl) ⟨rfl, e9.keep k9 (fun x hx => by simp at hx; omega)⟩)
end Go.Proofs.YtkhhjdjmhbdjfaaGreatDoor
