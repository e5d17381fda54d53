/- The number of letters. The value of a signal in a letter. past.tickOf. A tick: what the memory says. What is true now: past.tick.now. past.Next. Kernels, plain: what the walks ask of nodes is what the plain law says; node lists. Formulas sorted: slices.SortFunc with formula.Compare. Conditions: none. -/
import Derived.Test.YtkhhjdjmhbdjfaaGreatDoorQT7
import Derived.Test.YtkhhjdjmhbdjfaaGreatDoorShq

namespace Go.Proofs.YtkhhjdjmhbdjfaaGreatDoor
open Go.RowKit
set_option linter.unusedVariables false
variable {mk : Prop} [MK mk]
def Bm (l : List Sgn) : Int := if BG l then BM l else 0
theorem letters1_ok (w : World) (c : List Value) : Fn Tryz.prog 76 [.agg c.toArray] w fun v w' => v = .bool true ∧ Ext w w' := by
 refine AR Tryz.func76 rfl Tryz.ntmps76 (Nat.le_of_ble_eq_true rfl) (by kernel_rfl) ?_
 repeat refine nx rfl ?_
 (refine AA ?_; refine A5 (L := c) rfl (fun w1 n1 => ?_))
 refine AC (AB rfl ?_)
 repeat refine nx rfl ?_
 refine AA (AC (AB rfl ?_))
 repeat refine nx rfl ?_
 exact AI rfl ⟨rfl, n1.keep⟩
set_option maxHeartbeats 800000 in
theorem count_ok (w : World) (v : Value) (l : List Sgn) (h : SlAt sgnR As w v l) (hK : KY w) (hN : 3 ≤ w.heap.size) : Fn Tryz.prog 75 [v, .func (.func 76) #[] #[]] w fun u w' => u = .int .i64 (Bm l) ∧ Ext w w' := by
 have hlt := h.lt (show (0 : Nat) < 3 by omega)
 obtain ⟨a, c, rfl, hlm⟩ := h.len
 refine CK Tryz.func75 rfl Tryz.ntmps75 (Nat.le_of_ble_eq_true rfl) (by kernel_rfl) ?_
 repeat refine nx rfl ?_
 (refine AA ?_; refine A5 (L := [.slice a l.length c]) rfl (fun w1 n1 => ?_))
 refine A5 (L := [.func (.func 76) #[] #[]]) rfl (fun w2 n2 => ?_)
 refine AC (AG rfl ?_)
 repeat refine nx rfl ?_
 have z1 := n1.size
 have z2 := n2.size
 have k2 : Ext w w2 := n1.keep.trans n2.keep
 have b1 := n1.blk.keep n2.keep (by simp)
 have b2 := n2.blk
 refine AA (AF rfl (Blk.cell (by assumption) (by rfl)) ?_)
 refine AQ (sigValid_ok w2 _ l (h.ext k2) (hK.keep k2 (by simp))) rfl ?_
 rintro _ w3 ⟨rfl, k3⟩
 have hnl : Bm l = if BG l then BM l else 0 := rfl
 cases hv : BG l with
 | false =>
  rw [hv] at hnl
  refine Ak rfl ?_
  repeat refine nx rfl ?_
  refine AA (AC (AG rfl ?_))
  repeat refine nx rfl ?_
  exact finD_ret1 rfl ⟨by rw [hnl]; rfl, k2.trans k3⟩
 | true =>
 rw [hv] at hnl
 refine Ak rfl ?_
 repeat first | refine nx rfl ?_ | refine nf rfl ?_
 (refine AA ?_; refine Ar (fun w4 n4 => ?_))
 refine Aa (v := .int .i64 1) rfl rfl rfl n4.blk (by simp) (fun w5 p5 => ?_)
 repeat refine nx rfl ?_
 have z3 := k3.size
 have z4 := n4.size
 have z5 := p5.size
 have k35 : Ext w3 w5 := n4.keep.keep p5.keep (by simp)
 have k25 := k3.trans k35
 replace b1 := b1.keep k25 (by simp)
 replace b2 := b2.keep k25 (by simp)
 have b5 : Blk w5 w3.heap.size 3 [.int .i64 1] := p5.blk
 have k5 := k2.trans k25
 refine AA (AF rfl (Blk.cell (by assumption) (by rfl)) ?_)
 refine AQ (weights_ok w5 _ rfl) rfl ?_
 rintro _ w6 ⟨rfl, n6⟩
 repeat refine nx rfl ?_
 have z6 := n6.size
 replace b1 := b1.keep n6.keep (by simp)
 replace b2 := b2.keep n6.keep (by simp)
 replace b5 := b5.keep n6.keep (by simp)
 have b6 := n6.blk
 have k6 := k5.trans n6.keep
 refine C_range [] [pt w5.heap.size] rfl (by kernel_rfl) fun Rdy Bsy Don w7 HL k7 s7 m7 r7 => ?_
 replace b1 := b1.keep k7 (by simp)
 replace b2 := b2.keep k7 (by simp)
 replace b5 := b5.keep k7 (by simp)
 replace b6 := b6.keep k7 (by simp)
 have e7 := k6.trans k7
 obtain ⟨J, hJ⟩ : ∃ J : Nat → World → Prop, ∀ k W, J k W ↔ (Ext w W ∧ Blk W w3.heap.size 3 [.int .i64 (BM (l.take k))] ∧ Blk W w.heap.size 22 [.slice a l.length c] ∧ Blk W w1.heap.size 94 [.func (.func 76) #[] #[]] ∧ Rdy W ∧ W.heap[w6.heap.size]? = some (.deferred (some [])) ∧ w7.heap.size ≤ W.heap.size) := ⟨_, fun _ _ => Iff.rfl⟩
 have H : WtsR (.func (.yield (w6.heap.size + 1)) #[] #[]) [w3.heap.size, w6.heap.size + 1] w7.heap.size l J (fun _ => False) := by
  refine ⟨⟨_, rfl⟩, fun hj k hY => ?_, fun {k W x} hj hx => ?_⟩
  ·obtain ⟨j1, j2, j3, j4, j5, j6, j7⟩ := (hJ _ _).1 hj
   exact (hJ _ _).2 ⟨j1.keep k (fun x hx => by have := hY x hx; omega), j2.keep k (fun h => by have := hY _ h; omega), j3.keep k (fun h => by have := hY _ h; omega), j4.keep k (fun h => by have := hY _ h; omega), HL.rdy j5 k (fun h => by have := hY _ h; omega), (k.block _ (by have := HL.lt j5; omega) (fun h => by have := hY _ h; omega)).trans j6, Nat.le_trans j7 k.size⟩
  ·obtain ⟨j1, j2, j3, j4, j5, j6, j7⟩ := (hJ _ _).1 hj
   have hltl := HL.lt j5
   have hkl := (List.getElem?_eq_some_iff.1 hx).1
   obtain ⟨p1, p2, p3, p4, p5, p6⟩ := prod_bound hv hx
   refine YldP.mono (R := fun v W' => v = .bool true ∧ Keep [w3.heap.size, w6.heap.size + 1] W W' ∧ J (k + 1) W') (Y := fun _ _ => False) (HL.round j5 rfl ?_) (fun v W' h => ⟨h.2.1, .inl ⟨h.1, h.2.2⟩⟩) (fun _ _ h => h)
   repeat refine nx rfl ?_
   refine AA (AC (AG rfl ?_))
   repeat refine nx rfl ?_
   refine ⟨j5, fun W2 q2 y2s y2 => ?_⟩
   replace j2 := j2.keep q2 (by simp; omega)
   replace j3 := j3.keep q2 (by simp; omega)
   replace j4 := j4.keep q2 (by simp; omega)
   replace j6 := (q2.block _ (by omega) (by simp)).trans j6
   have e2 := j1.keep q2 (by simp; omega)
   have q2' : Keep [w3.heap.size, w6.heap.size + 1] W W2 := q2.mono (fun x hx => by simp at hx; simp [hx])
   obtain ⟨_, b, o, rfl, hb, hcx⟩ := (hlt.ext e2).sig hx
   repeat refine nx rfl ?_
   refine Ad (.read 0 (.read 1 (.read 2 (.read 3 (.read 4 (.alt 5 .done .stop)))))) Ax (by kernel_rfl) (fun wd kd ed => ⟨Ext wd, ?_, ?_⟩)
   ·exact Ext.refl _
   have f1 : ∀ V, Ext wd V → V.cell? ⟨w1.heap.size, 0, none⟩ = some (.func (.func 76) #[] #[]) := fun V e => (j4.keep (kd.trans e) (by simp)).cell rfl
   have f2 : ∀ V, Ext wd V → V.cell? ⟨w.heap.size, 0, none⟩ = some (.slice (some ⟨b, o, none⟩) l.length c) := fun V e => (j3.keep (kd.trans e) (by simp)).cell rfl
   have f3 : ∀ V, Ext wd V → Cells V b (o + k * 3) (sgnC x) := fun V e => (hcx.keep (kd.trans e) (by simp))
   refine D_R rfl rfl (fun W hW => AF rfl (f1 W hW) Z3) (D_R rfl rfl (fun W hW => AF rfl (f2 W hW) Z3) (D_R rfl rfl (fun W hW => AG rfl Z3) ?_))
   refine D_R rfl rfl (fun V hV => by refine Au (k := k) rfl rfl rfl hkl ?_; exact AO ⟨rfl, rfl, rfl⟩) ?_
   refine D_R (v := .agg (sgnC x).toArray) rfl rfl (fun V hV => by refine Ao (L := sgnC x) rfl rfl (f3 V hV) ?_; exact AO ⟨rfl, rfl, rfl⟩) ?_
   refine D_E rfl ?_
   refine BO (v1 := []) (v2 := []) (vs := [.agg (sgnC x).toArray]) rfl (letters1_ok wd (sgnC x)) rfl ?_
   rintro _ W3 ⟨rfl, e3⟩
   refine AO ⟨Ext wd, fun _ e => e, e3, ?_⟩
   refine Ah ?_
   repeat refine nx rfl ?_
   have q3 := q2'.trans (kd.trans e3) (fun x hx => by cases hx)
   replace j2 := j2.keep (kd.trans e3) (by simp)
   replace j3 := j3.keep (kd.trans e3) (by simp)
   replace j4 := j4.keep (kd.trans e3) (by simp)
   replace j6 := ((kd.trans e3).block _ (by omega) (by simp)).trans j6
   replace e2 := e2.trans (kd.trans e3)
   replace y2 := HL.bsy y2 (kd.trans e3) (by simp)
   replace hcx := hcx.keep (kd.trans e3) (by simp)
   clear f1 f2 f3 e3 kd
   refine Ad (.read 1 (.read 2 (.read 3 (.read 4 (.read 5 (.alt 0 (.read 6 (.alt 7 .done .stop)) .stop)))))) Ax (by kernel_rfl) (fun wd kd ed => ⟨Keep [w3.heap.size] wd, ?_, ?_⟩)
   ·exact Keep.refl _ _
   have f2 : ∀ V, Keep [w3.heap.size] wd V → V.cell? ⟨w.heap.size, 0, none⟩ = some (.slice (some ⟨b, o, none⟩) l.length c) := fun V e => ((j3.keep kd (by simp)).keep e (by simp; omega)).cell rfl
   have f3 : ∀ V, Keep [w3.heap.size] wd V → V.cell? ⟨b, o + k * 3 + 2, none⟩ = some (.int .i64 x.size) := fun V e => ((hcx.keep kd (by simp)).keep e (by have := hb.2; simp; omega)) 2 _ rfl
   refine D_R rfl rfl (fun W hW => AF rfl (f2 W hW) Z3) (D_R rfl rfl (fun W hW => AG rfl Z3) ?_)
   refine D_R rfl rfl (fun V hV => by refine Au (k := k) rfl rfl rfl hkl ?_; exact AO ⟨rfl, rfl, rfl⟩) ?_
   refine D_R rfl rfl (fun W hW => AD rfl Z3) (D_R rfl rfl (fun W hW => AF rfl (f3 W hW) Z3) ?_)
   refine D_E rfl ?_
   refine AF rfl ((j2.keep kd (by simp)).cell rfl) ?_
   refine AO ⟨Keep [w3.heap.size] wd, fun _ e => e, Keep.refl _ _, ?_⟩
   ((apply D_R rfl rfl; (intro W hW; refine W_mul rfl rfl (by first | exact AV (by omega) (by omega) | exact AY (by omega) (by omega) | exact AW (by omega) (by omega)) ?_; exact AO ⟨rfl, rfl, rfl⟩)))
   refine D_E rfl ?_
   refine Aa (v := .int .i64 (BM (l.take k) * x.size)) rfl rfl rfl (j2.keep kd (by simp)) (by simp) (fun W5 pp => ?_)
   refine AO ⟨Keep [w3.heap.size] wd, fun _ e => e, pp.keep, ?_⟩
   refine Ah ?_
   have kk : Keep [w3.heap.size] W3 W5 := kd.any.trans pp.keep (fun x hx _ => hx)
   have y3 := HL.bsy y2 kk (by simp; omega)
   have q5 : Keep [w3.heap.size, w6.heap.size + 1] W W5 := q3.trans kk (fun x hx _ => by simp at hx; simp [hx])
   replace j3 := j3.keep kk (by simp; omega)
   replace j4 := j4.keep kk (by simp; omega)
   replace j6 := (kk.block _ (by have := q3.size; omega) (by simp; omega)).trans j6
   replace e2 := e2.keep kk (by simp; omega)
   have j2 : Blk W5 w3.heap.size 3 [.int .i64 (BM (l.take k) * x.size)] := pp.blk
   have hs5 := q5.size
   repeat refine nx rfl ?_
   refine Q_rnd y3 fun W6 q6 z6 y6 => ⟨rfl, q5.trans q6 (fun x hx _ => by simp at hx; simp [hx]), (hJ _ _).2 ⟨e2.keep q6 (by simp; omega), ?_, j3.keep q6 (by simp; omega), j4.keep q6 (by simp; omega), y6, (q6.block _ (by omega) (by simp)).trans j6, by omega⟩⟩
   rw [prodS_take hx]
   exact j2.keep q6 (by simp; omega)
 have hz7 : w7.heap.size = w6.heap.size + 2 := s7
 refine Fn.mono (weightsIt_ok w7 w5.heap.size (.slice a l.length c) l H b6 (((hlt.ext e7)).mono fun x hx => by have := hx.2; simp; omega) hv ((hJ _ _).2 ⟨e7, b5, b1, b2, r7, m7, Nat.le_refl _⟩) (by simp; omega)) ?_
 rintro v w8 ⟨_, hj | hh⟩
 case inr => exact hh.elim
 obtain ⟨j1, j2, j3, j4, j5, j6, j7⟩ := (hJ _ _).1 hj
 have hlt8 := HL.lt j5
 refine .inl ⟨j5, fun w9 k9 s9 => ?_⟩
 clear hJ H hj HL r7 m7 b6
 rw [List.take_length] at j2
 replace j2 := j2.keep k9 (by simp; omega)
 replace j6 := (k9.block _ (by omega) (by simp)).trans j6
 have e9 := j1.keep k9 (by simp; omega)
 repeat refine nx rfl ?_
 (refine AA (AF rfl (Blk.cell (by assumption) (by rfl)) ?_) <;> refine AC (AG rfl ?_))
 repeat refine nx rfl ?_
 refine Bl j6 fun w10 k10 s10 => ?_
 exact finD_ret1 rfl ⟨by rw [hnl]; rfl, e9.keep k10 (by simp; omega)⟩
theorem letters_ok (w : World) (v : Value) (l : List Sgn) (h : SlAt sgnR As w v l) (hK : KY w) (hN : 3 ≤ w.heap.size) : Fn Tryz.prog 44 [v] w fun u w' => u = .int .i64 (Bm l) ∧ Ext w w' := by
 obtain ⟨a, c, rfl, hlm⟩ := h.len
 refine AR Tryz.func44 rfl Tryz.ntmps44 (Nat.le_of_ble_eq_true rfl) (by kernel_rfl) ?_
 repeat refine nx rfl ?_
 refine AA (AC (AG rfl ?_))
 repeat refine nx rfl ?_
 refine AA (AM rfl ?_)
 refine AQ (count_ok w _ l h hK hN) rfl ?_
 rintro _ w1 ⟨rfl, k1⟩
 refine AC (AG rfl ?_)
 repeat refine nx rfl ?_
 exact AI rfl ⟨rfl, k1⟩
end Go.Proofs.YtkhhjdjmhbdjfaaGreatDoor
namespace Go.Proofs.YtkhhjdjmhbdjfaaGreatDoor
open Go.RowKit
set_option linter.unusedVariables false
variable {mk : Prop} [MK mk]
def Cr (l : List Sgn) (x : Int) (i : Nat) : Int := match l[i]? with
 | some s => x / BM (l.take i) % s.size
 | none => 0
theorem num_valid {l : List Sgn} (h : BG l = true) : Bm l = BM l ∧ BM l ≤ 64 := by
 unfold Bm
 rw [if_pos h]
 exact ⟨rfl, (CN h).2.2.2⟩
set_option maxHeartbeats 1600000 in
theorem value_ok (w : World) (v : Value) (l : List Sgn) (x : Int) (i : Nat) (h : SlAt sgnR As w v l) (hK : KY w) (hN : 3 ≤ w.heap.size) (hv : BG l = true) (hx0 : 0 ≤ x) (hx1 : x < Bm l) (hi : i < l.length) :
  Fn Tryz.prog 63 [v, .int .i64 x, .int .i64 (i : Int)] w fun u w' => u = .int .i64 (Cr l x i) ∧ Ext w w' := by
 have hlt := h.lt (show (0 : Nat) < 3 by omega)
 obtain ⟨a, c, rfl, hlm⟩ := h.len
 obtain ⟨s, hs⟩ : ∃ s, l[i]? = some s := ⟨_, List.getElem?_eq_getElem hi⟩
 have hvs : Cr l x i = x / BM (l.take i) % s.size := by unfold Cr; rw [hs]
 obtain ⟨n1', n2'⟩ := num_valid hv
 refine CK Tryz.func63 rfl Tryz.ntmps63 (Nat.le_of_ble_eq_true rfl) (by kernel_rfl) ?_
 repeat refine nx rfl ?_
 (refine AA ?_; refine A5 (L := [.slice a l.length c]) rfl (fun w1 n1 => ?_))
 refine A5 (L := [.int .i64 x]) rfl (fun w2 n2 => ?_)
 refine A5 (L := [.int .i64 (i : Int)]) rfl (fun w3 n3 => ?_)
 refine Ar (fun w4 n4 => ?_)
 repeat refine nx rfl ?_
 have z1 := n1.size
 have z2 := n2.size
 have z3 := n3.size
 have z4 := n4.size
 have b1 := n1.blk.keep (n2.keep.trans (n3.keep.trans n4.keep)) (by simp)
 have b2 := n2.blk.keep (n3.keep.trans n4.keep) (by simp)
 have b3 := n3.blk.keep n4.keep (by simp)
 have b4 : Blk w4 w3.heap.size 3 [.int .i64 0] := n4.blk
 have k4 : Ext w w4 := ((n1.keep.trans n2.keep).trans n3.keep).trans n4.keep
 refine Ad (.read 0 (.read 1 (.read 2 (.read 3 (.read 4 (.alt 5 (.read 6 (.read 7 (.read 8 (.read 9 (.read 10 (.read 11 (.read 12 (.read 13 (.read 14 (.read 15 (.read 16 (.read 17 .done)))))))))))) .stop)))))) Ax (by kernel_rfl) (fun wd kd ed => ⟨Ext wd, ?_, ?_⟩)
 ·exact Ext.refl _
 have f1 : ∀ V, Ext wd V → V.cell? ⟨w.heap.size, 0, none⟩ = some (.slice a l.length c) := fun V e => (b1.keep (kd.trans e) (by simp)).cell rfl
 have f2 : ∀ V, Ext wd V → V.cell? ⟨w1.heap.size, 0, none⟩ = some (.int .i64 x) := fun V e => (b2.keep (kd.trans e) (by simp)).cell rfl
 have f3 : ∀ V, Ext wd V → V.cell? ⟨w2.heap.size, 0, none⟩ = some (.int .i64 (i : Int)) := fun V e => (b3.keep (kd.trans e) (by simp)).cell rfl
 refine D_R rfl rfl (fun W hW => AF rfl (f2 W hW) Z3) (D_lssF rfl rfl rfl rfl (by omega) (D_R rfl rfl (fun W hW => AB rfl Z3) (D_R rfl rfl (fun W hW => AE rfl (AF rfl (f2 W hW) Z3)) (D_R rfl rfl (fun W hW => AE rfl (AF rfl (f1 W hW) Z3)) ?_))))
 refine D_E rfl ?_
 refine AE rfl (AQ (letters_ok wd _ l (h.ext (k4.trans kd)) (hK.keep (k4.trans kd) (by simp)) (Nat.le_trans hN (k4.trans kd).size)) rfl ?_)
 rintro _ w5 ⟨rfl, k5⟩
 refine AO ⟨Ext wd, fun _ e => e, k5, ?_⟩
 refine D_geqF rfl rfl rfl rfl (by omega) (D_R rfl rfl (fun W hW => AJ rfl (AB rfl Z3)) (D_R rfl rfl (fun W hW => AB rfl Z3) (D_R rfl rfl (fun W hW => AE rfl (AF rfl (f3 W hW) Z3)) (D_lssF rfl rfl rfl rfl (by omega) (D_R rfl rfl (fun W hW => AJ rfl (AB rfl Z3)) (D_R rfl rfl (fun W hW => AB rfl Z3) (D_R rfl rfl (fun W hW => AE rfl (AF rfl (f3 W hW) Z3)) (D_R rfl rfl (fun W hW => AE rfl (AF rfl (f1 W hW) Z3)) (D_R rfl rfl (fun W hW => AE rfl (AZ rfl Z3)) (D_geqF rfl rfl rfl rfl (by omega) (D_R rfl rfl (fun W hW => AJ rfl (AB rfl Z3)) (Ah ?_))))))))))))
 repeat first | refine nx rfl ?_ | refine nf rfl ?_
 have k45 := kd.trans k5
 clear f1 f2 f3
 replace b1 := b1.keep k45 (by simp)
 replace b2 := b2.keep k45 (by simp)
 replace b3 := b3.keep k45 (by simp)
 replace b4 := b4.keep k45 (by simp)
 have e5 := k4.trans k45
 refine AA (AF rfl (Blk.cell (by assumption) (by rfl)) ?_)
 refine AQ (weights_ok w5 _ rfl) rfl ?_
 rintro _ w6 ⟨rfl, n6⟩
 repeat refine nx rfl ?_
 have z5 := k45.size
 have z6 := n6.size
 replace b1 := b1.keep n6.keep (by simp)
 replace b2 := b2.keep n6.keep (by simp)
 replace b3 := b3.keep n6.keep (by simp)
 replace b4 := b4.keep n6.keep (by simp)
 have b6 := n6.blk
 have e6 := e5.trans n6.keep
 refine C_range [] [pt w5.heap.size] rfl (by kernel_rfl) fun Rdy Bsy Don w7 HL k7 s7 m7 r7 => ?_
 replace b1 := b1.keep k7 (by simp)
 replace b2 := b2.keep k7 (by simp)
 replace b3 := b3.keep k7 (by simp)
 replace b4 := b4.keep k7 (by simp)
 replace b6 := b6.keep k7 (by simp)
 have e7 := e6.trans k7
 obtain ⟨J, hJ⟩ : ∃ J : Nat → World → Prop, ∀ k W, J k W ↔ (k ≤ i ∧ Ext w W ∧ Blk W w3.heap.size 3 [.int .i64 0] ∧ Blk W w.heap.size 22 [.slice a l.length c] ∧ Blk W w1.heap.size 3 [.int .i64 x] ∧ Blk W w2.heap.size 3 [.int .i64 (i : Int)] ∧ Rdy W ∧ W.heap[w6.heap.size]? = some (.deferred (some [])) ∧ w7.heap.size ≤ W.heap.size) := ⟨_, fun _ _ => Iff.rfl⟩
 obtain ⟨D, hD⟩ : ∃ D : World → Prop, ∀ W, D W ↔ (Ext w W ∧ Blk W w3.heap.size 3 [.int .i64 (Cr l x i)] ∧ Don .ret W ∧ W.heap[w6.heap.size]? = some (.deferred (some [])) ∧ w7.heap.size ≤ W.heap.size) := ⟨_, fun _ => Iff.rfl⟩
 have H : WtsR (.func (.yield (w6.heap.size + 1)) #[] #[]) [w3.heap.size, w6.heap.size + 1] w7.heap.size l J D := by
  refine ⟨⟨_, rfl⟩, fun hj k hY => ?_, fun {k W y} hj hy => ?_⟩
  ·obtain ⟨j0, j1, j2, j3, j4, j4', j5, j6, j7⟩ := (hJ _ _).1 hj
   exact (hJ _ _).2 ⟨j0, j1.keep k (fun x hx => by have := hY x hx; omega), j2.keep k (fun h => by have := hY _ h; omega), j3.keep k (fun h => by have := hY _ h; omega), j4.keep k (fun h => by have := hY _ h; omega), j4'.keep k (fun h => by have := hY _ h; omega), HL.rdy j5 k (fun h => by have := hY _ h; omega), (k.block _ (by have := HL.lt j5; omega) (fun h => by have := hY _ h; omega)).trans j6, Nat.le_trans j7 k.size⟩
  ·obtain ⟨j0, j1, j2, j3, j4, j4', j5, j6, j7⟩ := (hJ _ _).1 hj
   have hltl := HL.lt j5
   have hkl := (List.getElem?_eq_some_iff.1 hy).1
   obtain ⟨p1, p2, p3, p4, p5, p6⟩ := prod_bound hv hy
   refine YldP.mono (R := fun v W' => Keep [w3.heap.size, w6.heap.size + 1] W W' ∧ ((v = .bool true ∧ J (k + 1) W') ∨ (v = .bool false ∧ D W'))) (Y := fun _ _ => False) (HL.round j5 rfl ?_) (fun v W' h => h) (fun _ _ h => h)
   repeat refine nx rfl ?_
   refine AA (AC (AG rfl ?_))
   repeat refine nx rfl ?_
   refine AA (AC (AG rfl ?_))
   repeat refine nx rfl ?_
   refine ⟨j5, fun W2 q2 y2s y2 => ?_⟩
   replace j2 := j2.keep q2 (by simp; omega)
   replace j3 := j3.keep q2 (by simp; omega)
   replace j4 := j4.keep q2 (by simp; omega)
   replace j4' := j4'.keep q2 (by simp; omega)
   replace j6 := (q2.block _ (by omega) (by simp)).trans j6
   have e2 := j1.keep q2 (by simp; omega)
   have q2' : Keep [w3.heap.size, w6.heap.size + 1] W W2 := q2.mono (fun x hx => by simp at hx; simp [hx])
   repeat refine nx rfl ?_
   have ci := j4'.cell (o := 0) rfl
   by_cases hki : k = i
   ·subst hki
    rw [hs] at hy; cases hy
    (refine AA (AG rfl (AF rfl (Blk.cell (by assumption) (by rfl)) ?_)) <;> refine Ai rfl rfl (by omega) ?_)
    repeat refine nx rfl ?_
    obtain ⟨_, b, o, rfl, hb, hcx⟩ := (hlt.ext e2).sig hs
    have hdiv : 0 ≤ x / BM (l.take k) ∧ x / BM (l.take k) ≤ x := ⟨Int.ediv_nonneg hx0 (by omega), Int.ediv_le_self _ hx0⟩
    refine Ad (.read 0 (.read 1 (.read 2 (.read 3 (.read 4 (.read 5 (.read 6 (.read 7 (.read 8 (.alt 9 .done .stop)))))))))) Ax (by kernel_rfl) (fun wd kd ed => ⟨Keep [w3.heap.size] wd, ?_, ?_⟩)
    ·exact Keep.refl _ _
    have g1 : ∀ V, Keep [w3.heap.size] wd V → V.cell? ⟨w.heap.size, 0, none⟩ = some (.slice (some ⟨b, o, none⟩) l.length c) := fun V e => ((j3.keep kd (by simp)).keep e (by simp; omega)).cell rfl
    have g2 : ∀ V, Keep [w3.heap.size] wd V → V.cell? ⟨w1.heap.size, 0, none⟩ = some (.int .i64 x) := fun V e => ((j4.keep kd (by simp)).keep e (by simp; omega)).cell rfl
    have g3 : ∀ V, Keep [w3.heap.size] wd V → V.cell? ⟨w2.heap.size, 0, none⟩ = some (.int .i64 (k : Int)) := fun V e => ((j4'.keep kd (by simp)).keep e (by simp; omega)).cell rfl
    have g4 : ∀ V, Keep [w3.heap.size] wd V → V.cell? ⟨b, o + k * 3 + 2, none⟩ = some (.int .i64 s.size) := fun V e => ((hcx.keep kd (by simp)).keep e (by have := hb.2; simp; omega)) 2 _ rfl
    (refine D_R rfl rfl (fun W hW => AF rfl (g2 W hW) Z3) (D_R rfl rfl (fun W hW => AG rfl Z3) ?_) <;> (apply D_R rfl rfl; (intro W hW; refine W_quo rfl rfl (by omega) (by omega) (by first | exact AV (by omega) (by omega) | exact AY (by omega) (by omega) | exact AW (by omega) (by omega)) ?_; exact Z3)) <;> refine D_R rfl rfl (fun W hW => AF rfl (g1 W hW) Z3) (D_R rfl rfl (fun W hW => AF rfl (g3 W hW) Z3) ?_))
    refine D_R rfl rfl (fun V hV => by refine Au (k := k) rfl rfl rfl hkl ?_; exact AO ⟨rfl, rfl, rfl⟩) ?_
    refine D_R rfl rfl (fun W hW => AD rfl Z3) (D_R rfl rfl (fun W hW => AF rfl (g4 W hW) Z3) (D_R rfl rfl (fun W hW => W_rem rfl rfl (by omega) (by omega) Z3) ?_))
    refine D_E rfl ?_
    refine Aa (v := .int .i64 (x / BM (l.take k) % s.size)) rfl rfl rfl (j2.keep kd (by simp)) (by simp) (fun W5 pp => ?_)
    refine AO ⟨Keep [w3.heap.size] wd, fun _ e => e, pp.keep, ?_⟩
    refine Ah ?_
    have kk : Keep [w3.heap.size] W2 W5 := kd.any.trans pp.keep (fun x hx _ => hx)
    have y3 := HL.bsy y2 kk (by simp; omega)
    have q5 : Keep [w3.heap.size, w6.heap.size + 1] W W5 := q2'.trans kk (fun x hx _ => by simp at hx; simp [hx])
    replace j6 := (kk.block _ (by omega) (by simp; omega)).trans j6
    replace e2 := e2.keep kk (by simp; omega)
    have j2 : Blk W5 w3.heap.size 3 [.int .i64 (x / BM (l.take k) % s.size)] := pp.blk
    have hs5 := q5.size
    repeat refine nx rfl ?_
    refine Q_rnd_ret y3 fun W6 q6 z6 y6 => ⟨q5.trans q6 (fun x hx _ => by simp at hx; simp [hx]), .inr ⟨rfl, (hD _).2 ⟨e2.keep q6 (by simp; omega), ?_, y6, (q6.block _ (by omega) (by simp)).trans j6, by omega⟩⟩⟩
    rw [hvs]
    exact j2.keep q6 (by simp; omega)
   ·(refine AA (AG rfl (AF rfl (Blk.cell (by assumption) (by rfl)) ?_)) <;> refine AT rfl rfl (by omega) ?_)
    repeat first | refine nx rfl ?_ | refine nf rfl ?_
    refine Q_rnd y2 fun W6 q6 z6 y6 => ⟨q2'.trans q6 (fun x hx _ => by simp at hx; simp [hx]), .inl ⟨rfl, (hJ _ _).2 ⟨by omega, e2.keep q6 (by simp; omega), j2.keep q6 (by simp; omega), j3.keep q6 (by simp; omega), j4.keep q6 (by simp; omega), j4'.keep q6 (by simp; omega), y6, (q6.block _ (by omega) (by simp)).trans j6, by omega⟩⟩⟩
 have hz7 : w7.heap.size = w6.heap.size + 2 := s7
 refine Fn.mono (weightsIt_ok w7 w5.heap.size (.slice a l.length c) l H b6 (((hlt.ext e7)).mono fun x hx => by have := hx.2; simp; omega) hv ((hJ _ _).2 ⟨by omega, e7, b4, b1, b2, b3, r7, m7, Nat.le_refl _⟩) (by simp; omega)) ?_
 rintro v w8 ⟨_, hj | hd⟩
 ·obtain ⟨j0, _⟩ := (hJ _ _).1 hj
  omega
 obtain ⟨j1, j2, j5, j6, j7⟩ := (hD _).1 hd
 refine .inr ⟨.ret, j5, fun w9 k9 s9 => ?_⟩
 clear hJ H hD hd HL r7 m7 b6
 replace j2 := j2.keep k9 (by simp; omega)
 replace j6 := (k9.block _ (by omega) (by simp)).trans j6
 have e9 := j1.keep k9 (by simp; omega)
 unfold behind
 simp only
 repeat refine nx rfl ?_
 refine Bl j6 fun w10 k10 s10 => ?_
 have c10 := (j2.keep k10 (by simp; omega)).cell (o := 0) rfl
 exact BU (CL rfl c10 ⟨rfl, e9.keep k10 (by simp; omega)⟩)
end Go.Proofs.YtkhhjdjmhbdjfaaGreatDoor
namespace Go.Proofs.YtkhhjdjmhbdjfaaGreatDoor
open Go.RowKit
set_option linter.unusedVariables false
variable {mk : Prop} [MK mk]
def valsC (S : List Sgn) (x : Int) (n : Nat) : List Value := (List.range n).map fun i => .int .i64 (Cr S x i)
theorem C5 (S : List Sgn) (x : Int) (n : Nat) : valsC S x (n + 1) = valsC S x n ++ [.int .i64 (Cr S x n)] := by
 unfold valsC; rw [List.range_succ, List.map_append]; rfl
theorem valsC_len (S : List Sgn) (x : Int) (n : Nat) : (valsC S x n).length = n := by simp [valsC]
theorem madeInt : (madeCells (Value.int .i64 0).cells (1 * 1)).toList = [.int .i64 0] := by kernel_rfl
theorem C8 {w : World} {B e size n : Nat} {v : Value} {xs : List Value} (h : w.ownsRow B e size v n xs) : v.oneCell' = true := by
 rcases h.2 with ⟨rfl, _⟩ | ⟨g, cap, cur, rfl, _⟩ <;> rfl
theorem tickOf_ok (w : World) (sv v : Value) (S : List Sgn) (l : List Fml) (m : Nat) (x : Int) (okl okS : Nat → Prop) (hS : SlAt sgnR As w sv S) (hv : BG S = true) (hx0 : 0 ≤ x) (hx1 : x < Bm S)
  (hl : SlAt fmlR okl w v l) (hu : ∀ b, okl b → Unm w b) (hG : GF w) (hK : KY w) (hN : 3 ≤ w.heap.size) (hok : listOk l) (hm : m < 2 ^ l.length) :
  Fn Tryz.prog 33 [sv, v, .int .i64 m, .int .i64 x] w fun u w' => ∃ t r, u = .tuple #[pt t, .bool true] ∧ Ext w w' ∧ w.heap.size ≤ t ∧ Blk w' t 87 [sv, r, v, .int .i64 m] ∧ w'.ownsRow w.heap.size 3 1 r S.length (valsC S x S.length) := by
 obtain ⟨sa, sc, rfl, _⟩ := hS.len
 obtain ⟨a, c, rfl, hlm⟩ := hl.len
 have hll := hl.lt (show (0 : Nat) < 5 by omega)
 refine AR Tryz.func33 rfl Tryz.ntmps33 (Nat.le_of_ble_eq_true rfl) (by kernel_rfl) ?_
 repeat refine nx rfl ?_
 refine AA (AC (AP rfl (AC (AB rfl ?_))))
 repeat refine nx rfl ?_
 refine AA (AG rfl (Aj rfl rfl (by omega) (AB rfl (AE rfl (AG rfl (AE rfl (AM rfl ?_)))))))
 refine AE rfl (AQ (letters_ok w _ S hS hK hN) rfl ?_)
 rintro _ w1 ⟨rfl, k1⟩
 refine AE rfl (CD rfl rfl (by omega) (AJ rfl (AB rfl (AB rfl (AE rfl (AM rfl (AE rfl (AG rfl ?_))))))))
 refine AE rfl (AQ (isMemory_ok w1 _ l m _ (hll.ext k1) (fun b hb => (hu b hb.1).eq (k1.block b hb.2 (by simp))) (hG.ext k1) (hK.keep k1 (by simp)) (Nat.le_trans hN k1.size) hok hm) rfl ?_)
 rintro _ w2 ⟨rfl, k2⟩
 have k12 := k1.trans k2
 refine AE rfl (Ak rfl (AJ rfl (AB rfl ?_)))
 repeat first | refine nx rfl ?_ | refine nf rfl ?_
 refine AA (AM rfl (AM rfl (AG rfl (BE (by rfl) (by rfl) ?_))))
 refine A5 (L := [.slice sa S.length sc, .slice none 0 0, .slice a l.length c, .int .i64 m]) rfl (fun w3 n3 => ?_)
 refine AC (AP rfl ?_)
 repeat refine nx rfl ?_
 refine AA (AM rfl (AZ rfl (AG rfl ?_)))
 repeat refine nx rfl ?_
 have k3 := k12.trans n3.keep
 have z3 := n3.size
 have zw := k12.size
 have h6 : S.length ≤ 6 := (CN hv).2.1
 refine A3 (α := Nat × Value) (fun y => [(0, .slice sa S.length sc), (3, .int .i64 x), (10, pt w2.heap.size), (32, .int .i64 (S.length : Int)), (33, .int .i64 (y.1 : Int))]) (fun y W => y.1 ≤ S.length ∧ Ext w W ∧ Blk W w2.heap.size 87 [.slice sa S.length sc, y.2, .slice a l.length c, .int .i64 m] ∧ W.ownsRow w3.heap.size 3 1 y.2 y.1 (valsC S x y.1) ∧ w3.heap.size ≤ W.heap.size) (fun y => S.length - y.1) (0, .slice none 0 0) ⟨rfl, rfl, rfl, rfl, rfl, trivial⟩ ⟨by simp, k3, n3.blk, ⟨rfl, .inl ⟨rfl, rfl⟩⟩, Nat.le_refl _⟩ ?_
 rintro ⟨k, r⟩ W fr ⟨hk, kW, bT, oW, hW⟩
 simp only at hk kW bT oW hW
 repeat refine nx rfl ?_
 by_cases hlt : k < S.length
 ·refine AA (At rfl rfl (by omega) ?_)
  repeat refine nx rfl ?_
  refine AA (AG rfl (AC (AG rfl ?_)))
  repeat refine nx rfl ?_
  refine Ad (.read 0 (.read 1 (.read 2 (.read 3 (.read 5 (.read 6 (.read 7 (.alt 4 (.alt 8 (.alt 9 (.alt 10 (.read 11 (.read 12 (.alt 13 .done .stop))) .stop) .stop) .stop) (.alt 8 (.alt 4 (.alt 9 (.alt 10 (.read 11 (.read 12 (.alt 13 .done .stop))) .stop) .stop) (.alt 9 (.alt 4 (.alt 10 (.read 11 (.read 12 (.alt 13 .done .stop))) .stop) .stop) .stop)) .stop))))))))) Ax (by kernel_rfl) (fun wd kd ed => ⟨fun _ => True, ?_, ?_⟩)
  ·trivial
  have eqd := kW.trans kd
  have bTd := bT.keep kd (by simp)
  have oqd := A4 oW kd
  have zkd := kd.size
  refine D_R rfl rfl (fun W hW => AP rfl Z3) (D_R rfl rfl (fun W hW => AP rfl Z3) (D_R rfl rfl (fun W hW => AH rfl Z3) (D_R rfl rfl (fun W hW => AD rfl Z3) (D_R rfl rfl (fun W hW => AM rfl Z3) (D_R rfl rfl (fun W hW => AG rfl Z3) (D_R rfl rfl (fun W hW => AG rfl Z3) ?_))))))
  refine D_A rfl ?_ (D_E rfl ?_)
  ·refine AF rfl (bTd.cell (o := 1) rfl) ?_
   refine AO ⟨_, fun _ h => h, trivial, ?_⟩
   refine D_E rfl ?_
   refine AQ (value_ok wd _ S x k (hS.ext eqd) (hK.keep eqd (by simp)) (Nat.le_trans hN (eqd).size) hv hx0 hx1 hlt) rfl ?_
   rintro _ wC ⟨rfl, kC⟩
   have eqC := eqd.trans kC
   have bTC := bTd.keep kC (by simp)
   have oqC := A4 oqd kC
   have zkC := kC.size
   refine AO ⟨_, fun _ h => h, trivial, ?_⟩
   refine D_E rfl ?_
   refine Ab (out := [.int .i64 (Cr S x k)]) rfl (by omega) (by rw [madeInt]; rfl) (fun wB nB => ?_)
   have kB := nB.keep
   have oz := nB.own (n := 1) (size := 1) rfl (by unfold maxLen; omega) (Nat.le_refl _)
   have eqB := eqC.trans kB
   have bTB := bTC.keep kB (by simp)
   have oqB := A4 oqC kB
   have zkB := kB.size
   refine AO ⟨_, fun _ h => h, trivial, ?_⟩
   refine D_E rfl ?_
   refine BD (ok := As) rfl rfl oqB (Az oz fun _ _ => trivial) (by omega) rfl rfl (Ap rfl) (by omega) (by omega) (by omega) (fun r7 w7 a7 => ?_)
   refine AO ⟨_, fun _ h => h, trivial, ?_⟩
   refine D_R rfl rfl (fun W hW => AH rfl Z3) (D_R rfl rfl (fun W hW => AD rfl Z3) ?_)
   refine D_E rfl ?_
   have hr : ∀ g, r.ownBlock = some g → w3.heap.size ≤ g := fun g hg => (Aw oqB hg).1
   have z7 := a7.keep.size
   have hr7 : ∀ g, r7.ownBlock = some g → w3.heap.size ≤ g := fun g hg => (Aw a7.own hg).1
   refine Aa (v := r7) rfl rfl (C8 a7.own) (bTB.keep a7.keep (fun hx => by have := hr _ (Option.mem_toList.1 hx); omega)) (by simp) (fun w8 p8 => ?_)
   refine AO ⟨_, fun _ h => h, trivial, ?_⟩
   refine Ah ?_
   repeat refine nx rfl ?_
   (refine AA (Av rfl rfl (by first | exact AV (by omega) (by omega) | exact AY (by omega) (by omega) | exact AW (by omega) (by omega)) ?_) <;> refine AG rfl ?_)
   repeat refine nx rfl ?_
   refine ⟨(k + 1, r7), ⟨rfl, ⟨rfl, rfl, rfl, rfl, ?_, trivial⟩, ⟨by (try simp only); omega, ?_, p8.blk, ?_, by have := p8.size; (try simp only); omega⟩⟩, by simp only; omega⟩
   ·show Value.int .i64 ((k : Int) + 1) = _
    rw [Int.natCast_add]; rfl
   ·exact (eqB.keep a7.keep (fun y hy => by have := hr _ (Option.mem_toList.1 hy); omega)).keep p8.keep (fun y hy => by simp at hy; omega)
   ·simp only
    rw [C5]
    exact Ag a7.own p8.keep (fun g hg => by have := hr7 g hg; simp; omega)
  refine AQ (value_ok wd _ S x k (hS.ext eqd) (hK.keep eqd (by simp)) (Nat.le_trans hN (eqd).size) hv hx0 hx1 hlt) rfl ?_
  rintro _ wC ⟨rfl, kC⟩
  have eqC := eqd.trans kC
  have bTC := bTd.keep kC (by simp)
  have oqC := A4 oqd kC
  have zkC := kC.size
  refine AO ⟨_, fun _ h => h, trivial, ?_⟩
  refine D_A rfl ?_ (D_E rfl ?_)
  ·refine AF rfl (bTC.cell (o := 1) rfl) ?_
   refine AO ⟨_, fun _ h => h, trivial, ?_⟩
   refine D_E rfl ?_
   refine Ab (out := [.int .i64 (Cr S x k)]) rfl (by omega) (by rw [madeInt]; rfl) (fun wB nB => ?_)
   have kB := nB.keep
   have oz := nB.own (n := 1) (size := 1) rfl (by unfold maxLen; omega) (Nat.le_refl _)
   have eqB := eqC.trans kB
   have bTB := bTC.keep kB (by simp)
   have oqB := A4 oqC kB
   have zkB := kB.size
   refine AO ⟨_, fun _ h => h, trivial, ?_⟩
   refine D_E rfl ?_
   refine BD (ok := As) rfl rfl oqB (Az oz fun _ _ => trivial) (by omega) rfl rfl (Ap rfl) (by omega) (by omega) (by omega) (fun r7 w7 a7 => ?_)
   refine AO ⟨_, fun _ h => h, trivial, ?_⟩
   refine D_R rfl rfl (fun W hW => AH rfl Z3) (D_R rfl rfl (fun W hW => AD rfl Z3) ?_)
   refine D_E rfl ?_
   have hr : ∀ g, r.ownBlock = some g → w3.heap.size ≤ g := fun g hg => (Aw oqB hg).1
   have z7 := a7.keep.size
   have hr7 : ∀ g, r7.ownBlock = some g → w3.heap.size ≤ g := fun g hg => (Aw a7.own hg).1
   refine Aa (v := r7) rfl rfl (C8 a7.own) (bTB.keep a7.keep (fun hx => by have := hr _ (Option.mem_toList.1 hx); omega)) (by simp) (fun w8 p8 => ?_)
   refine AO ⟨_, fun _ h => h, trivial, ?_⟩
   refine Ah ?_
   repeat refine nx rfl ?_
   (refine AA (Av rfl rfl (by first | exact AV (by omega) (by omega) | exact AY (by omega) (by omega) | exact AW (by omega) (by omega)) ?_) <;> refine AG rfl ?_)
   repeat refine nx rfl ?_
   refine ⟨(k + 1, r7), ⟨rfl, ⟨rfl, rfl, rfl, rfl, ?_, trivial⟩, ⟨by (try simp only); omega, ?_, p8.blk, ?_, by have := p8.size; (try simp only); omega⟩⟩, by simp only; omega⟩
   ·show Value.int .i64 ((k : Int) + 1) = _
    rw [Int.natCast_add]; rfl
   ·exact (eqB.keep a7.keep (fun y hy => by have := hr _ (Option.mem_toList.1 hy); omega)).keep p8.keep (fun y hy => by simp at hy; omega)
   ·simp only
    rw [C5]
    exact Ag a7.own p8.keep (fun g hg => by have := hr7 g hg; simp; omega)
  refine Ab (out := [.int .i64 (Cr S x k)]) rfl (by omega) (by rw [madeInt]; rfl) (fun wB nB => ?_)
  have kB := nB.keep
  have oz := nB.own (n := 1) (size := 1) rfl (by unfold maxLen; omega) (Nat.le_refl _)
  have eqB := eqC.trans kB
  have bTB := bTC.keep kB (by simp)
  have oqB := A4 oqC kB
  have zkB := kB.size
  refine AO ⟨_, fun _ h => h, trivial, ?_⟩
  refine D_E rfl ?_
  refine AF rfl (bTB.cell (o := 1) rfl) ?_
  refine AO ⟨_, fun _ h => h, trivial, ?_⟩
  refine D_E rfl ?_
  refine BD (ok := As) rfl rfl oqB (Az oz fun _ _ => trivial) (by omega) rfl rfl (Ap rfl) (by omega) (by omega) (by omega) (fun r7 w7 a7 => ?_)
  refine AO ⟨_, fun _ h => h, trivial, ?_⟩
  refine D_R rfl rfl (fun W hW => AH rfl Z3) (D_R rfl rfl (fun W hW => AD rfl Z3) ?_)
  refine D_E rfl ?_
  have hr : ∀ g, r.ownBlock = some g → w3.heap.size ≤ g := fun g hg => (Aw oqB hg).1
  have z7 := a7.keep.size
  have hr7 : ∀ g, r7.ownBlock = some g → w3.heap.size ≤ g := fun g hg => (Aw a7.own hg).1
  refine Aa (v := r7) rfl rfl (C8 a7.own) (bTB.keep a7.keep (fun hx => by have := hr _ (Option.mem_toList.1 hx); omega)) (by simp) (fun w8 p8 => ?_)
  refine AO ⟨_, fun _ h => h, trivial, ?_⟩
  refine Ah ?_
  repeat refine nx rfl ?_
  (refine AA (Av rfl rfl (by first | exact AV (by omega) (by omega) | exact AY (by omega) (by omega) | exact AW (by omega) (by omega)) ?_) <;> refine AG rfl ?_)
  repeat refine nx rfl ?_
  refine ⟨(k + 1, r7), ⟨rfl, ⟨rfl, rfl, rfl, rfl, ?_, trivial⟩, ⟨by (try simp only); omega, ?_, p8.blk, ?_, by have := p8.size; (try simp only); omega⟩⟩, by simp only; omega⟩
  ·show Value.int .i64 ((k : Int) + 1) = _
   rw [Int.natCast_add]; rfl
  ·exact (eqB.keep a7.keep (fun y hy => by have := hr _ (Option.mem_toList.1 hy); omega)).keep p8.keep (fun y hy => by simp at hy; omega)
  ·simp only
   rw [C5]
   exact Ag a7.own p8.keep (fun g hg => by have := hr7 g hg; simp; omega)
 ·refine AA (Aj rfl rfl (by omega) ?_)
  repeat first | refine nx rfl ?_ | refine nf rfl ?_
  obtain rfl : k = S.length := by omega
  refine AA (AP rfl (AC (AP rfl (AC (AB rfl ?_)))))
  repeat refine nx rfl ?_
  exact fin_ret2 rfl ⟨w2.heap.size, r, rfl, kW, zw, bT, ownsRow_mono oW (by omega)⟩
end Go.Proofs.YtkhhjdjmhbdjfaaGreatDoor
namespace Go.Proofs.YtkhhjdjmhbdjfaaGreatDoor
open Go.RowKit
set_option linter.unusedVariables false
variable {mk : Prop} [MK mk]
def Tick (w : World) (t : Nat) (S : List Sgn) (x : Int) (l : List Fml) (m : Nat) : Prop := ∃ sa sc ra rc a c, Blk w t 87 [.slice sa S.length sc, .slice ra S.length rc, .slice a l.length c, .int .i64 m] ∧ SlAt sgnR As w (.slice sa S.length sc) S ∧
 (∀ i, i < S.length → ∃ g o, ra = some ⟨g, o, none⟩ ∧ w.cell? ⟨g, o + i, none⟩ = some (.int .i64 (Cr S x i))) ∧ SlAt fmlR (fun b => Unm w b ∧ b < w.heap.size) w (.slice a l.length c) l
theorem Tick.ext {w w' : World} {t : Nat} {S : List Sgn} {x : Int} {l : List Fml} {m : Nat} (h : Tick w t S x l m) (k : Ext w w') : Tick w' t S x l m := by
 obtain ⟨sa, sc, ra, rc, a, c, h1, h2, h3, h4⟩ := h
 refine ⟨sa, sc, ra, rc, a, c, h1.keep k (by simp), h2.ext k, fun i hi => ?_, (h4.ext k).mono fun b hb => ⟨hb.1.eq (k.block b hb.2 (by simp)), Nat.lt_of_lt_of_le hb.2 k.size⟩⟩
 obtain ⟨g, o, e, hc⟩ := h3 i hi
 exact ⟨g, o, e, k.cell hc (by simp)⟩
theorem says_ok (w : World) (t : Nat) (S : List Sgn) (x : Int) (l : List Fml) (m b o : Nat) (g : Fml) (hT : Tick w t S x l m) (hz : ∀ x ∈ l, szF x ≤ 1000000) (h8 : l.length ≤ 8) (hm : m < 2 ^ l.length) (hg : PF As w b o g) (hgl : g ∈ l) :
  Fn Tryz.prog 65 [pt t, .pointer (some ⟨b, o, none⟩)] w fun u w' => u = .bool (BI l m g) ∧ Ext w w' := by
 obtain ⟨sa, sc, ra, rc, a, c, hb, hS, hr, hl⟩ := hT
 obtain ⟨i, hi⟩ := findN_mem hgl
 have hf : findI l g = (i : Int) := by unfold findI; rw [hi]
 have hs : BI l m g = m.testBit i := by unfold BI; rw [hi]
 have hil : i < l.length := (List.getElem?_eq_some_iff.1 (findN_some hi)).1
 have h2 : (2 : Nat) ^ l.length ≤ 2 ^ 60 := Nat.pow_le_pow_right (by omega) (by omega)
 have hmd : m / 2 ^ i ≤ m := Nat.div_le_self _ _
 have hbit := bit_of m i
 rw [hs]
 refine AR Tryz.func65 rfl Tryz.ntmps65 (Nat.le_of_ble_eq_true rfl) (by kernel_rfl) ?_
 repeat refine nx rfl ?_
 refine AA (AC (AB rfl ?_))
 repeat refine nx rfl ?_
 refine Ad (.read 0 (.read 1 (.read 2 (.read 3 (.read 4 (.read 5 (.read 6 (.read 7 (.read 8 (.alt 9 (.read 10 (.read 11 (.read 12 (.read 13 .done)))) .stop)))))))))) Ax (by kernel_rfl) (fun wd kd ed => ⟨Ext wd, ?_, ?_⟩)
 ·exact Ext.refl _
 have q1 : ∀ V, Ext wd V → V.cell? ⟨t, 0 + 3, none⟩ = some (.int .i64 m) := fun V e => (hb.keep (kd.trans e) (by simp)).cell rfl
 have q2 : ∀ V, Ext wd V → V.cell? ⟨t, 0 + 2, none⟩ = some (.slice a l.length c) := fun V e => (hb.keep (kd.trans e) (by simp)).cell rfl
 refine D_R rfl rfl (fun W hW => AP rfl Z3) (D_R rfl rfl (fun W hW => AH rfl Z3) (D_R rfl rfl (fun W hW => AD rfl Z3) (D_R rfl rfl (fun W hW => AF rfl (q1 W hW) Z3) (D_R rfl rfl (fun W hW => AP rfl Z3) (D_R rfl rfl (fun W hW => AH rfl Z3) (D_R rfl rfl (fun W hW => AD rfl Z3) (D_R rfl rfl (fun W hW => AF rfl (q2 W hW) Z3) (D_R rfl rfl (fun W hW => AP rfl Z3) ?_))))))))
 refine D_E rfl ?_
 refine AQ (find_ok wd _ l b o g _ _ (hl.ext kd) (hg.keep kd (fun _ _ => by simp)) (.inl fun b hb => hb.1.eq (kd.block b hb.2 (by simp))) hz) rfl ?_
 rintro _ w2 ⟨rfl, k2⟩
 rw [hf]
 refine AO ⟨Ext wd, fun _ e => e, k2, ?_⟩
 refine D_R rfl rfl (fun V hV => by refine W_shr rfl rfl (by omega) ?_; exact AO ⟨rfl, rfl, rfl⟩) ?_
 refine D_R rfl rfl (fun V hV => by refine W_bits_and (n := 1) rfl rfl (by omega) (by omega) ?_; exact AO ⟨rfl, rfl, rfl⟩) ?_
 cases ht : m.testBit i with
 | true =>
  rw [ht] at hbit
  have h1 : ((m / 2 ^ i &&& 1 : Nat) : Int) = 1 := hbit
  refine D_eqlT rfl rfl rfl rfl (by omega) (D_R rfl rfl (fun W hW => AC (AB rfl Z3)) (Ah ?_))
  repeat refine nx rfl ?_
  exact AI rfl ⟨rfl, kd.trans k2⟩
 | false =>
  rw [ht] at hbit
  have h1 : ((m / 2 ^ i &&& 1 : Nat) : Int) = 0 := hbit
  refine D_eqlF rfl rfl rfl rfl (by omega) (D_R rfl rfl (fun W hW => AC (AB rfl Z3)) (Ah ?_))
  repeat refine nx rfl ?_
  exact AI rfl ⟨rfl, kd.trans k2⟩
end Go.Proofs.YtkhhjdjmhbdjfaaGreatDoor
namespace Go.Proofs.YtkhhjdjmhbdjfaaGreatDoor
open Go.RowKit
set_option linter.unusedVariables false
variable {mk : Prop} [MK mk]
def vlS (S : List Sgn) (x : Int) : Vl := fun nm => match S.findIdx? (fun y => decide (y.name = nm)) with
 | some i => Cr S x i
 | none => 0
def knS (S : List Sgn) (nm : List UInt8) (v : Int) : Bool := match S.findIdx? (fun y => decide (y.name = nm)) with
 | some i => match S[i]? with
  | some s => decide (v < s.size)
  | none => false
 | none => false
theorem kn_find {S : List Sgn} {nm : List UInt8} {v : Int} (h : knS S nm v = true) : ∃ i s, S.findIdx? (fun y => decide (y.name = nm)) = some i ∧ S[i]? = some s ∧ v < s.size := by
 unfold knS at h
 split at h
 ·rename_i i hi
  split at h
  ·rename_i s hs
   exact ⟨i, s, hi, hs, by simpa using h⟩
  ·cases h
 ·cases h
theorem nowG_parts (x : Vl) (M : Fml → Bool) (f : Fml) : B5 x M f = CO x f.op f.name f.val (M f) (f.args.map (B5 x M)) := by
 obtain ⟨op, nm, v, b, args⟩ := f
 rw [B5, nowGL_eq]; rfl
theorem now_ok (w0 : World) (t : Nat) (S : List Sgn) (x : Int) (l : List Fml) (m : Nat) (hT : Tick w0 t S x l m) (hz : ∀ x ∈ l, szF x ≤ 1000000) (h8 : l.length ≤ 8) (hm : m < 2 ^ l.length) : ∀ (n : Nat) (w : World) (b o : Nat) (f : Fml) (i : Bool), dpF f ≤ n → Ext w0 w → PF As w b o f → A9 i f = true → isB (knS S) f = true → (∀ y ∈ pnF f, y ∈ l) →
  Fn Tryz.prog 35 [pt t, .pointer (some ⟨b, o, none⟩)] w fun u w' => u = .bool (B5 (vlS S x) (BI l m) f) ∧ Ext w w' := by
 intro n
 induction n with
 | zero => intro w b o f i hn; rw [Bd] at hn; omega
 | succ n ih =>
 intro w b o f i hn e0 hf hb hk hall
 rw [Bd] at hn
 have hTw := hT.ext e0
 obtain ⟨aa, cc, hla, q0, q1, q2, q3, q4, qa⟩ := hf.all
 obtain ⟨op, nm, v, bd, args⟩ := f
 obtain ⟨hlo, hsh, _, hbl⟩ := BS hb
 have hba := Bk hsh
 obtain ⟨hk3, hkl⟩ := is_iff.1 hk
 rw [nowG_parts]
 simp only [Fml.op, Fml.name, Fml.val, Fml.args] at *
 have hc := CP hlo
 have harg : ∀ (k : Nat) (a : Fml), args[k]? = some a → ∀ W, Ext w W → ∃ b' o', aa = some ⟨b', o', none⟩ ∧ Fn Tryz.prog 35 [pt t, .pointer (some ⟨b', o' + k * 5, none⟩)] W fun u w' => u = .bool (B5 (vlS S x) (BI l m) a) ∧ Ext W w' := fun k a ha W eW => by
  obtain ⟨b', o', e, hp⟩ := qa k a ha
  have hm' := List.mem_of_getElem? ha
  have := Bp hm'
  exact ⟨b', o', e, ih W b' _ a _ (by omega) (e0.trans eW) (hp.keep eW (fun _ _ => by simp)) (hbl a hm') (hkl a hm') fun y hy => hall y (pn_args (f := .mk op nm v bd args) hm' hy)⟩
 refine AR Tryz.func35 rfl Tryz.ntmps35 (Nat.le_of_ble_eq_true rfl) (by kernel_rfl) ?_
 repeat refine nx rfl ?_
 refine AA (AC (AB rfl ?_))
 repeat refine nx rfl ?_
 (refine AA (AP rfl (AH rfl (AD rfl (AF rfl (by assumption) ?_)))))
 repeat refine nx rfl ?_
 have hfl : ∀ (o : Int), o = 2 ∨ o = 8 ∨ o = 9 ∨ o = 10 → CO (vlS S x) o nm v (BI l m (.mk o nm v bd args)) (args.map (B5 (vlS S x) (BI l m))) = false := fun o ho => by
  rcases ho with rfl | rfl | rfl | rfl <;> rfl
 rcases hc with rfl | rfl | rfl | rfl | rfl | rfl | rfl | rfl | rfl | rfl | rfl | rfl
 ·refine AA (Ai rfl rfl (by omega) (AC (AB rfl ?_)))
  repeat refine nx rfl ?_
  refine AA (AC (AB rfl ?_))
  repeat refine nx rfl ?_
  exact AI rfl ⟨rfl, Ext.refl _⟩
 ·rw [hfl 2 (by omega)]
  refine AA (AT rfl rfl (by omega) (AC (AB rfl ?_)))
  repeat first | refine nx rfl ?_ | refine nf rfl ?_
  refine AA (AT rfl rfl (by omega) (AC (AB rfl ?_)))
  repeat first | refine nx rfl ?_ | refine nf rfl ?_
  refine AA (AT rfl rfl (by omega) (AC (AB rfl ?_)))
  repeat first | refine nx rfl ?_ | refine nf rfl ?_
  refine AA (AT rfl rfl (by omega) (AC (AB rfl ?_)))
  repeat first | refine nx rfl ?_ | refine nf rfl ?_
  refine AA (AT rfl rfl (by omega) (AC (AB rfl ?_)))
  repeat first | refine nx rfl ?_ | refine nf rfl ?_
  refine AA (AT rfl rfl (by omega) (AC (AB rfl ?_)))
  repeat first | refine nx rfl ?_ | refine nf rfl ?_
  refine AA (AT rfl rfl (by omega) (AC (AB rfl ?_)))
  repeat first | refine nx rfl ?_ | refine nf rfl ?_
  refine AA (AT rfl rfl (by omega) (AC (AB rfl ?_)))
  repeat first | refine nx rfl ?_ | refine nf rfl ?_
  refine AA (AC (AB rfl ?_))
  repeat refine nx rfl ?_
  exact AI rfl ⟨rfl, Ext.refl _⟩
 ·obtain ⟨j, s, hj, hs, hvs⟩ := kn_find (hk3 rfl)
  obtain ⟨sa, sc, ra, rc, a, c, hb, hS, hr, hl⟩ := hTw
  have hjl := (List.getElem?_eq_some_iff.1 hs).1
  obtain ⟨rg, ro, rfl, hrc⟩ := hr j hjl
  have hfm : Cs S nm = (j : Int) := by unfold Cs; rw [hj]
  have hvl : vlS S x nm = Cr S x j := by unfold vlS; rw [hj]
  have hno : CO (vlS S x) 3 nm v (BI l m (.mk 3 nm v bd args)) (args.map (B5 (vlS S x) (BI l m))) = decide (Cr S x j = v) := by rw [← hvl]; rfl
  rw [hno]
  refine AA (AT rfl rfl (by omega) (AC (AB rfl ?_)))
  repeat first | refine nx rfl ?_ | refine nf rfl ?_
  refine AA (Ai rfl rfl (by omega) (AC (AB rfl ?_)))
  repeat refine nx rfl ?_
  refine Ad (.read 0 (.read 1 (.read 2 (.read 3 (.read 4 (.read 5 (.read 6 (.read 7 (.alt 8 (.read 9 .done) .stop))))))))) Ax (by kernel_rfl) (fun wd kd ed => ⟨Ext wd, ?_, ?_⟩)
  ·exact Ext.refl _
  have s1 : ∀ V, Ext wd V → V.cell? ⟨t, 0 + 0, none⟩ = some (.slice sa S.length sc) := fun V e => (hb.keep (kd.trans e) (by simp)).cell rfl
  have s2 : ∀ V, Ext wd V → V.cell? ⟨b, o + 1, none⟩ = some (An nm) := fun V e => (kd.trans e).cell q1 (by simp)
  refine D_R rfl rfl (fun W hW => AP rfl Z3) (D_R rfl rfl (fun W hW => AH rfl Z3) (D_R rfl rfl (fun W hW => AD rfl Z3) (D_R rfl rfl (fun W hW => AF rfl (s1 W hW) Z3) (D_R rfl rfl (fun W hW => AP rfl Z3) (D_R rfl rfl (fun W hW => AH rfl Z3) (D_R rfl rfl (fun W hW => AD rfl Z3) (D_R rfl rfl (fun W hW => AF rfl (s2 W hW) Z3) ?_)))))))
  refine D_E rfl ?_
  refine AQ (sigFind_ok wd _ S nm (hS.ext kd)) rfl ?_
  rintro _ wd ⟨rfl, rfl⟩
  rw [hfm]
  refine AO ⟨Ext wd, fun _ e => e, Ext.refl _, ?_⟩
  refine D_R rfl rfl (fun W hW => AC (AG rfl Z3)) (Ah ?_)
  repeat refine nx rfl ?_
  have kd1 := kd
  clear kd s1 s2
  refine Ad (.read 0 (.read 1 (.read 2 (.read 3 (.read 4 (.read 5 (.read 6 (.read 7 (.read 8 (.read 9 (.read 10 (.read 11 (.read 12 (.read 13 (.read 14 (.read 15 (.read 16 .done))))))))))))))))) Ax (by kernel_rfl) (fun wd kd ed => ⟨Ext wd, ?_, ?_⟩)
  ·exact Ext.refl _
  have kk := kd1.trans kd
  have s3 : ∀ V, Ext wd V → V.cell? ⟨t, 0 + 1, none⟩ = some (.slice (some ⟨rg, ro, none⟩) S.length rc) := fun V e => (hb.keep (kk.trans e) (by simp)).cell rfl
  have s4 : ∀ V, Ext wd V → V.cell? ⟨rg, ro + j, none⟩ = some (.int .i64 (Cr S x j)) := fun V e => (kk.trans e).cell hrc (by simp)
  have s5 : ∀ V, Ext wd V → V.cell? ⟨b, o + 2, none⟩ = some (.int .i64 v) := fun V e => (kk.trans e).cell q2 (by simp)
  by_cases hvv : Cr S x j = v
  ·refine D_R rfl rfl (fun W hW => AG rfl Z3) (D_geqT rfl rfl rfl rfl (by omega) (D_R rfl rfl (fun W hW => AB rfl Z3) (D_R rfl rfl (fun W hW => AE rfl (AP rfl Z3)) (D_R rfl rfl (fun W hW => AE rfl (AH rfl Z3)) (D_R rfl rfl (fun W hW => AE rfl (AD rfl Z3)) (D_R rfl rfl (fun W hW => AE rfl (AF rfl (s3 W hW) Z3)) (D_R rfl rfl (fun W hW => AE rfl (AG rfl Z3)) (D_R rfl rfl (fun W hW => AE rfl (BL rfl rfl rfl (by omega) Z3)) (D_R rfl rfl (fun W hW => AE rfl (AF rfl (s4 W hW) Z3)) (D_R rfl rfl (fun W hW => AE rfl (AP rfl Z3)) (D_R rfl rfl (fun W hW => AE rfl (AH rfl Z3)) (D_R rfl rfl (fun W hW => AE rfl (AD rfl Z3)) (D_R rfl rfl (fun W hW => AE rfl (AF rfl (s5 W hW) Z3)) (D_eqlT rfl rfl rfl rfl (by omega) (D_R rfl rfl (fun W hW => AK rfl (AB rfl Z3)) (D_R rfl rfl (fun W hW => AC (AB rfl Z3)) (Ah ?_)))))))))))))))))
   repeat refine nx rfl ?_
   exact AI rfl ⟨by rw [decide_eq_true hvv]; rfl, kk⟩
  ·refine D_R rfl rfl (fun W hW => AG rfl Z3) (D_geqT rfl rfl rfl rfl (by omega) (D_R rfl rfl (fun W hW => AB rfl Z3) (D_R rfl rfl (fun W hW => AE rfl (AP rfl Z3)) (D_R rfl rfl (fun W hW => AE rfl (AH rfl Z3)) (D_R rfl rfl (fun W hW => AE rfl (AD rfl Z3)) (D_R rfl rfl (fun W hW => AE rfl (AF rfl (s3 W hW) Z3)) (D_R rfl rfl (fun W hW => AE rfl (AG rfl Z3)) (D_R rfl rfl (fun W hW => AE rfl (BL rfl rfl rfl (by omega) Z3)) (D_R rfl rfl (fun W hW => AE rfl (AF rfl (s4 W hW) Z3)) (D_R rfl rfl (fun W hW => AE rfl (AP rfl Z3)) (D_R rfl rfl (fun W hW => AE rfl (AH rfl Z3)) (D_R rfl rfl (fun W hW => AE rfl (AD rfl Z3)) (D_R rfl rfl (fun W hW => AE rfl (AF rfl (s5 W hW) Z3)) (D_eqlF rfl rfl rfl rfl (by omega) (D_R rfl rfl (fun W hW => AK rfl (AB rfl Z3)) (D_R rfl rfl (fun W hW => AC (AB rfl Z3)) (Ah ?_)))))))))))))))))
   repeat refine nx rfl ?_
   exact AI rfl ⟨by rw [decide_eq_false hvv]; rfl, kk⟩
 ·have hl1 : args.length = 1 := by simpa [A8] using hba
  obtain ⟨a, ha⟩ := Ck hl1
  obtain ⟨b', o', rfl, hfn⟩ := harg 0 a (by rw [ha]; rfl) w (Ext.refl _)
  have hno : CO (vlS S x) 4 nm v (BI l m (.mk 4 nm v bd args)) (args.map (B5 (vlS S x) (BI l m))) = !B5 (vlS S x) (BI l m) a := by rw [ha]; rfl
  rw [hno]
  refine AA (AT rfl rfl (by omega) (AC (AB rfl ?_)))
  repeat first | refine nx rfl ?_ | refine nf rfl ?_
  refine AA (AT rfl rfl (by omega) (AC (AB rfl ?_)))
  repeat first | refine nx rfl ?_ | refine nf rfl ?_
  refine AA (Ai rfl rfl (by omega) (AC (AB rfl ?_)))
  repeat refine nx rfl ?_
  (refine AA (AP rfl (AP rfl (AH rfl (AD rfl (AF rfl (by assumption) ?_))))) <;> refine Aq rfl rfl (by omega) (by omega) ?_)
  refine AQ hfn rfl ?_
  rintro _ w1 ⟨rfl, k1⟩
  refine Ak rfl (AC (AB rfl ?_))
  repeat refine nx rfl ?_
  exact AI rfl ⟨rfl, k1⟩
 ·have hno : CO (vlS S x) 5 nm v (BI l m (.mk 5 nm v bd args)) (args.map (B5 (vlS S x) (BI l m))) = (args.map (B5 (vlS S x) (BI l m))).all id := rfl
  rw [hno]
  refine AA (AT rfl rfl (by omega) (AC (AB rfl ?_)))
  repeat first | refine nx rfl ?_ | refine nf rfl ?_
  refine AA (AT rfl rfl (by omega) (AC (AB rfl ?_)))
  repeat first | refine nx rfl ?_ | refine nf rfl ?_
  refine AA (AT rfl rfl (by omega) (AC (AB rfl ?_)))
  repeat first | refine nx rfl ?_ | refine nf rfl ?_
  refine AA (Ai rfl rfl (by omega) (AC (AB rfl ?_)))
  repeat refine nx rfl ?_
  (refine AA (AP rfl (AH rfl (AD rfl (AF rfl (by assumption) ?_)))) <;> refine AZ rfl (AG rfl ?_))
  repeat refine nx rfl ?_
  refine A3 (α := Nat) (fun k => [(0, pt t), (1, .pointer (some ⟨b, o, none⟩)), (57, .int .i64 (args.length : Int)), (58, .int .i64 (k : Int))]) (fun k W => k ≤ args.length ∧ Ext w W ∧ ∀ (i : Nat) (y : Fml), i < k → args[i]? = some y → B5 (vlS S x) (BI l m) y = true) (fun k => args.length - k) 0 ⟨rfl, rfl, rfl, rfl, trivial⟩ ⟨by omega, Ext.refl _, fun i y hi => by omega⟩ ?_
  rintro k W fr ⟨hkl, kW, hbefore⟩
  have q4W := kW.cell q4 (by simp)
  have q0W := kW.cell q0 (by simp)
  repeat refine nx rfl ?_
  by_cases hlt : k < args.length
  ·refine AA (At rfl rfl (by omega) ?_)
   repeat refine nx rfl ?_
   refine AA (AG rfl (AC (AG rfl ?_)))
   repeat refine nx rfl ?_
   obtain ⟨y, hy⟩ : ∃ y, args[k]? = some y := ⟨_, List.getElem?_eq_getElem hlt⟩
   obtain ⟨b', o', rfl, _⟩ := harg k y hy W kW
   refine Ad (.read 0 (.read 1 (.read 2 (.read 3 (.read 4 (.read 5 (.read 6 (.read 8 (.read 9 (.read 10 (.read 11 (.read 12 (.alt 7 (.read 13 .done) .stop))))))))))))) Ax (by kernel_rfl) (fun wd kd ed => ⟨Ext wd, ?_, ?_⟩)
   ·exact Ext.refl _
   obtain ⟨_, _, e2, hfn⟩ := harg k y hy wd (kW.trans kd)
   cases e2
   have s1 : ∀ V, Ext wd V → V.cell? ⟨b, o + 4, none⟩ = some (.slice (some ⟨b', o', none⟩) args.length cc) := fun V e => (kd.trans e).cell q4W (by simp)
   have s2 : ∀ V, Ext wd V → V.cell? ⟨b, o + 0, none⟩ = some (.int .i64 5) := fun V e => (kd.trans e).cell q0W (by simp)
   refine D_R rfl rfl (fun W hW => AP rfl Z3) (D_R rfl rfl (fun W hW => AP rfl Z3) (D_R rfl rfl (fun W hW => AH rfl Z3) (D_R rfl rfl (fun W hW => AD rfl Z3) (D_R rfl rfl (fun W hW => AF rfl (s1 W hW) Z3) (D_R rfl rfl (fun W hW => AG rfl Z3) (D_R rfl rfl (fun W hW => Au rfl rfl rfl (by omega) Z3) (D_R rfl rfl (fun W hW => AP rfl Z3) (D_R rfl rfl (fun W hW => AH rfl Z3) (D_R rfl rfl (fun W hW => AD rfl Z3) (D_R rfl rfl (fun W hW => AF rfl (s2 W hW) Z3) (D_eqlF rfl rfl rfl rfl (by omega) ?_)))))))))))
   refine D_E rfl ?_
   refine AQ hfn rfl ?_
   rintro _ w4 ⟨rfl, k4⟩
   refine AO ⟨Ext wd, fun _ e => e, k4, ?_⟩
   have k5 := (kW.trans kd).trans k4
   have q05 := (kd.trans k4).cell q0W (by simp)
   cases hv : B5 (vlS S x) (BI l m) y with
   | true =>
    refine D_R (v := .bool false) rfl rfl (fun V hV => by refine W_beql rfl rfl ?_; exact AO ⟨rfl, rfl, rfl⟩) ?_
    refine Ah ?_
    repeat first | refine nx rfl ?_ | refine nf rfl ?_
    (refine AA (Av rfl rfl (by first | exact AV (by omega) (by omega) | exact AY (by omega) (by omega) | exact AW (by omega) (by omega)) ?_) <;> refine AG rfl ?_)
    repeat refine nx rfl ?_
    refine ⟨k + 1, ⟨rfl, ⟨rfl, rfl, rfl, ?_, trivial⟩, ⟨by omega, k5, fun i z hi hz => ?_⟩⟩, by omega⟩
    ·show Value.int .i64 ((k : Int) + 1) = _
     rw [Int.natCast_add]; rfl
    ·by_cases hik : i = k
     ·subst hik; rw [hy] at hz; cases hz; exact hv
     ·exact hbefore i z (by omega) hz
   | false =>
    refine D_R (v := .bool true) rfl rfl (fun V hV => by refine W_beql rfl rfl ?_; exact AO ⟨rfl, rfl, rfl⟩) ?_
    refine Ah ?_
    repeat refine nx rfl ?_
    (refine AA (AP rfl (AH rfl (AD rfl (AF rfl (by assumption) ?_)))) <;> refine AT rfl rfl (by omega) (AC (AB rfl ?_)))
    repeat refine nx rfl ?_
    refine AI rfl ⟨?_, k5⟩
    show Value.bool false = _
    refine congrArg Value.bool ?_
    symm; rw [← Bool.not_eq_true, List.all_eq_true]; intro h; have := h _ (List.mem_map.2 ⟨y, List.mem_of_getElem? hy, rfl⟩); rw [hv] at this; cases this
  ·refine AA (Aj rfl rfl (by omega) ?_)
   repeat first | refine nx rfl ?_ | refine nf rfl ?_
   (refine AA (AP rfl (AH rfl (AD rfl (AF rfl (by assumption) ?_)))) <;> refine Ai rfl rfl (by omega) (AC (AB rfl ?_)))
   repeat refine nx rfl ?_
   refine AI rfl ⟨?_, kW⟩
   show Value.bool true = _
   refine congrArg Value.bool ?_
   symm; rw [List.all_eq_true]; rintro _ hm; obtain ⟨z, hz, rfl⟩ := List.mem_map.1 hm; obtain ⟨i, hi⟩ := List.getElem?_of_mem hz; exact hbefore i z (by have := (List.getElem?_eq_some_iff.1 hi).1; omega) hi
 ·have hno : CO (vlS S x) 6 nm v (BI l m (.mk 6 nm v bd args)) (args.map (B5 (vlS S x) (BI l m))) = (args.map (B5 (vlS S x) (BI l m))).any id := rfl
  rw [hno]
  refine AA (AT rfl rfl (by omega) (AC (AB rfl ?_)))
  repeat first | refine nx rfl ?_ | refine nf rfl ?_
  refine AA (AT rfl rfl (by omega) (AC (AB rfl ?_)))
  repeat first | refine nx rfl ?_ | refine nf rfl ?_
  refine AA (AT rfl rfl (by omega) (AC (AB rfl ?_)))
  repeat first | refine nx rfl ?_ | refine nf rfl ?_
  refine AA (AT rfl rfl (by omega) (AC (AB rfl ?_)))
  repeat first | refine nx rfl ?_ | refine nf rfl ?_
  refine AA (Ai rfl rfl (by omega) (AC (AB rfl ?_)))
  repeat refine nx rfl ?_
  (refine AA (AP rfl (AH rfl (AD rfl (AF rfl (by assumption) ?_)))) <;> refine AZ rfl (AG rfl ?_))
  repeat refine nx rfl ?_
  refine A3 (α := Nat) (fun k => [(0, pt t), (1, .pointer (some ⟨b, o, none⟩)), (57, .int .i64 (args.length : Int)), (58, .int .i64 (k : Int))]) (fun k W => k ≤ args.length ∧ Ext w W ∧ ∀ (i : Nat) (y : Fml), i < k → args[i]? = some y → B5 (vlS S x) (BI l m) y = false) (fun k => args.length - k) 0 ⟨rfl, rfl, rfl, rfl, trivial⟩ ⟨by omega, Ext.refl _, fun i y hi => by omega⟩ ?_
  rintro k W fr ⟨hkl, kW, hbefore⟩
  have q4W := kW.cell q4 (by simp)
  have q0W := kW.cell q0 (by simp)
  repeat refine nx rfl ?_
  by_cases hlt : k < args.length
  ·refine AA (At rfl rfl (by omega) ?_)
   repeat refine nx rfl ?_
   refine AA (AG rfl (AC (AG rfl ?_)))
   repeat refine nx rfl ?_
   obtain ⟨y, hy⟩ : ∃ y, args[k]? = some y := ⟨_, List.getElem?_eq_getElem hlt⟩
   obtain ⟨b', o', rfl, _⟩ := harg k y hy W kW
   refine Ad (.read 0 (.read 1 (.read 2 (.read 3 (.read 4 (.read 5 (.read 6 (.read 8 (.read 9 (.read 10 (.read 11 (.read 12 (.alt 7 (.read 13 .done) .stop))))))))))))) Ax (by kernel_rfl) (fun wd kd ed => ⟨Ext wd, ?_, ?_⟩)
   ·exact Ext.refl _
   obtain ⟨_, _, e2, hfn⟩ := harg k y hy wd (kW.trans kd)
   cases e2
   have s1 : ∀ V, Ext wd V → V.cell? ⟨b, o + 4, none⟩ = some (.slice (some ⟨b', o', none⟩) args.length cc) := fun V e => (kd.trans e).cell q4W (by simp)
   have s2 : ∀ V, Ext wd V → V.cell? ⟨b, o + 0, none⟩ = some (.int .i64 6) := fun V e => (kd.trans e).cell q0W (by simp)
   refine D_R rfl rfl (fun W hW => AP rfl Z3) (D_R rfl rfl (fun W hW => AP rfl Z3) (D_R rfl rfl (fun W hW => AH rfl Z3) (D_R rfl rfl (fun W hW => AD rfl Z3) (D_R rfl rfl (fun W hW => AF rfl (s1 W hW) Z3) (D_R rfl rfl (fun W hW => AG rfl Z3) (D_R rfl rfl (fun W hW => Au rfl rfl rfl (by omega) Z3) (D_R rfl rfl (fun W hW => AP rfl Z3) (D_R rfl rfl (fun W hW => AH rfl Z3) (D_R rfl rfl (fun W hW => AD rfl Z3) (D_R rfl rfl (fun W hW => AF rfl (s2 W hW) Z3) (D_eqlT rfl rfl rfl rfl (by omega) ?_)))))))))))
   refine D_E rfl ?_
   refine AQ hfn rfl ?_
   rintro _ w4 ⟨rfl, k4⟩
   refine AO ⟨Ext wd, fun _ e => e, k4, ?_⟩
   have k5 := (kW.trans kd).trans k4
   have q05 := (kd.trans k4).cell q0W (by simp)
   cases hv : B5 (vlS S x) (BI l m) y with
   | false =>
    refine D_R (v := .bool false) rfl rfl (fun V hV => by refine W_beql rfl rfl ?_; exact AO ⟨rfl, rfl, rfl⟩) ?_
    refine Ah ?_
    repeat first | refine nx rfl ?_ | refine nf rfl ?_
    (refine AA (Av rfl rfl (by first | exact AV (by omega) (by omega) | exact AY (by omega) (by omega) | exact AW (by omega) (by omega)) ?_) <;> refine AG rfl ?_)
    repeat refine nx rfl ?_
    refine ⟨k + 1, ⟨rfl, ⟨rfl, rfl, rfl, ?_, trivial⟩, ⟨by omega, k5, fun i z hi hz => ?_⟩⟩, by omega⟩
    ·show Value.int .i64 ((k : Int) + 1) = _
     rw [Int.natCast_add]; rfl
    ·by_cases hik : i = k
     ·subst hik; rw [hy] at hz; cases hz; exact hv
     ·exact hbefore i z (by omega) hz
   | true =>
    refine D_R (v := .bool true) rfl rfl (fun V hV => by refine W_beql rfl rfl ?_; exact AO ⟨rfl, rfl, rfl⟩) ?_
    refine Ah ?_
    repeat refine nx rfl ?_
    (refine AA (AP rfl (AH rfl (AD rfl (AF rfl (by assumption) ?_)))) <;> refine Ai rfl rfl (by omega) (AC (AB rfl ?_)))
    repeat refine nx rfl ?_
    refine AI rfl ⟨?_, k5⟩
    show Value.bool true = _
    refine congrArg Value.bool ?_
    symm; rw [List.any_eq_true]; exact ⟨_, List.mem_map.2 ⟨y, List.mem_of_getElem? hy, rfl⟩, hv⟩
  ·refine AA (Aj rfl rfl (by omega) ?_)
   repeat first | refine nx rfl ?_ | refine nf rfl ?_
   (refine AA (AP rfl (AH rfl (AD rfl (AF rfl (by assumption) ?_)))) <;> refine AT rfl rfl (by omega) (AC (AB rfl ?_)))
   repeat refine nx rfl ?_
   refine AI rfl ⟨?_, kW⟩
   show Value.bool false = _
   refine congrArg Value.bool ?_
   symm; rw [← Bool.not_eq_true, List.any_eq_true]; rintro ⟨_, hm, h1⟩; obtain ⟨z, hz, rfl⟩ := List.mem_map.1 hm; obtain ⟨i, hi⟩ := List.getElem?_of_mem hz; have := hbefore i z (by have := (List.getElem?_eq_some_iff.1 hi).1; omega) hi; rw [this] at h1; cases h1
 ·rw [hfl 8 (by omega)]
  refine AA (AT rfl rfl (by omega) (AC (AB rfl ?_)))
  repeat first | refine nx rfl ?_ | refine nf rfl ?_
  refine AA (AT rfl rfl (by omega) (AC (AB rfl ?_)))
  repeat first | refine nx rfl ?_ | refine nf rfl ?_
  refine AA (AT rfl rfl (by omega) (AC (AB rfl ?_)))
  repeat first | refine nx rfl ?_ | refine nf rfl ?_
  refine AA (AT rfl rfl (by omega) (AC (AB rfl ?_)))
  repeat first | refine nx rfl ?_ | refine nf rfl ?_
  refine AA (AT rfl rfl (by omega) (AC (AB rfl ?_)))
  repeat first | refine nx rfl ?_ | refine nf rfl ?_
  refine AA (AT rfl rfl (by omega) (AC (AB rfl ?_)))
  repeat first | refine nx rfl ?_ | refine nf rfl ?_
  refine AA (AT rfl rfl (by omega) (AC (AB rfl ?_)))
  repeat first | refine nx rfl ?_ | refine nf rfl ?_
  refine AA (AT rfl rfl (by omega) (AC (AB rfl ?_)))
  repeat first | refine nx rfl ?_ | refine nf rfl ?_
  refine AA (AC (AB rfl ?_))
  repeat refine nx rfl ?_
  exact AI rfl ⟨rfl, Ext.refl _⟩
 ·rw [hfl 9 (by omega)]
  refine AA (AT rfl rfl (by omega) (AC (AB rfl ?_)))
  repeat first | refine nx rfl ?_ | refine nf rfl ?_
  refine AA (AT rfl rfl (by omega) (AC (AB rfl ?_)))
  repeat first | refine nx rfl ?_ | refine nf rfl ?_
  refine AA (AT rfl rfl (by omega) (AC (AB rfl ?_)))
  repeat first | refine nx rfl ?_ | refine nf rfl ?_
  refine AA (AT rfl rfl (by omega) (AC (AB rfl ?_)))
  repeat first | refine nx rfl ?_ | refine nf rfl ?_
  refine AA (AT rfl rfl (by omega) (AC (AB rfl ?_)))
  repeat first | refine nx rfl ?_ | refine nf rfl ?_
  refine AA (AT rfl rfl (by omega) (AC (AB rfl ?_)))
  repeat first | refine nx rfl ?_ | refine nf rfl ?_
  refine AA (AT rfl rfl (by omega) (AC (AB rfl ?_)))
  repeat first | refine nx rfl ?_ | refine nf rfl ?_
  refine AA (AT rfl rfl (by omega) (AC (AB rfl ?_)))
  repeat first | refine nx rfl ?_ | refine nf rfl ?_
  refine AA (AC (AB rfl ?_))
  repeat refine nx rfl ?_
  exact AI rfl ⟨rfl, Ext.refl _⟩
 ·rw [hfl 10 (by omega)]
  refine AA (AT rfl rfl (by omega) (AC (AB rfl ?_)))
  repeat first | refine nx rfl ?_ | refine nf rfl ?_
  refine AA (AT rfl rfl (by omega) (AC (AB rfl ?_)))
  repeat first | refine nx rfl ?_ | refine nf rfl ?_
  refine AA (AT rfl rfl (by omega) (AC (AB rfl ?_)))
  repeat first | refine nx rfl ?_ | refine nf rfl ?_
  refine AA (AT rfl rfl (by omega) (AC (AB rfl ?_)))
  repeat first | refine nx rfl ?_ | refine nf rfl ?_
  refine AA (AT rfl rfl (by omega) (AC (AB rfl ?_)))
  repeat first | refine nx rfl ?_ | refine nf rfl ?_
  refine AA (AT rfl rfl (by omega) (AC (AB rfl ?_)))
  repeat first | refine nx rfl ?_ | refine nf rfl ?_
  refine AA (AT rfl rfl (by omega) (AC (AB rfl ?_)))
  repeat first | refine nx rfl ?_ | refine nf rfl ?_
  refine AA (AT rfl rfl (by omega) (AC (AB rfl ?_)))
  repeat first | refine nx rfl ?_ | refine nf rfl ?_
  refine AA (AC (AB rfl ?_))
  repeat refine nx rfl ?_
  exact AI rfl ⟨rfl, Ext.refl _⟩
 ·have hin := hall _ (pn_self (f := .mk 15 nm v bd args) rfl)
  refine AA (AT rfl rfl (by omega) (AC (AB rfl ?_)))
  repeat first | refine nx rfl ?_ | refine nf rfl ?_
  refine AA (AT rfl rfl (by omega) (AC (AB rfl ?_)))
  repeat first | refine nx rfl ?_ | refine nf rfl ?_
  refine AA (AT rfl rfl (by omega) (AC (AB rfl ?_)))
  repeat first | refine nx rfl ?_ | refine nf rfl ?_
  refine AA (AT rfl rfl (by omega) (AC (AB rfl ?_)))
  repeat first | refine nx rfl ?_ | refine nf rfl ?_
  refine AA (AT rfl rfl (by omega) (AC (AB rfl ?_)))
  repeat first | refine nx rfl ?_ | refine nf rfl ?_
  refine AA (Ai rfl rfl (by omega) (AC (AB rfl ?_)))
  repeat refine nx rfl ?_
  refine AA (AP rfl (AP rfl ?_))
  refine AQ (says_ok w t S x l m b o _ hTw hz h8 hm hf hin) rfl ?_
  rintro _ w1 ⟨rfl, k1⟩
  refine AC (AB rfl ?_)
  repeat refine nx rfl ?_
  exact AI rfl ⟨rfl, k1⟩
 ·have hl2 : args.length = 2 := by simpa [A8] using hba
  have hin := hall _ (pn_self (f := .mk 16 nm v bd args) rfl)
  obtain ⟨a, c, ha⟩ := two_args hl2
  obtain ⟨b', o', rfl, hfn⟩ := harg 1 c (by rw [ha]; rfl) w (Ext.refl _)
  have hno : CO (vlS S x) 16 nm v (BI l m (.mk 16 nm v bd args)) (args.map (B5 (vlS S x) (BI l m))) = (B5 (vlS S x) (BI l m) c || (BI l m (.mk 16 nm v bd args) && B5 (vlS S x) (BI l m) a)) := by rw [ha]; rfl
  rw [hno]
  refine AA (AT rfl rfl (by omega) (AC (AB rfl ?_)))
  repeat first | refine nx rfl ?_ | refine nf rfl ?_
  refine AA (AT rfl rfl (by omega) (AC (AB rfl ?_)))
  repeat first | refine nx rfl ?_ | refine nf rfl ?_
  refine AA (AT rfl rfl (by omega) (AC (AB rfl ?_)))
  repeat first | refine nx rfl ?_ | refine nf rfl ?_
  refine AA (AT rfl rfl (by omega) (AC (AB rfl ?_)))
  repeat first | refine nx rfl ?_ | refine nf rfl ?_
  refine AA (AT rfl rfl (by omega) (AC (AB rfl ?_)))
  repeat first | refine nx rfl ?_ | refine nf rfl ?_
  refine AA (AT rfl rfl (by omega) (AC (AB rfl ?_)))
  repeat first | refine nx rfl ?_ | refine nf rfl ?_
  refine AA (Ai rfl rfl (by omega) (AC (AB rfl ?_)))
  repeat refine nx rfl ?_
  (refine AA (AP rfl (AP rfl (AH rfl (AD rfl (AF rfl (by assumption) ?_))))) <;> refine Aq rfl rfl (by omega) (by omega) ?_)
  refine AQ hfn rfl ?_
  rintro _ w1 ⟨rfl, k1⟩
  have q41 := k1.cell q4 (by simp)
  obtain ⟨_, _, e2, hfn2⟩ := harg 0 a (by rw [ha]; rfl) w1 k1
  cases e2
  cases hc1 : B5 (vlS S x) (BI l m) c with
  | true =>
   refine AB rfl (AL rfl (AL rfl (AL rfl (AL rfl (AL rfl (AL rfl ?_))))))
   refine AL rfl (AL rfl (AL rfl (AL rfl (AL rfl (AL rfl (AK rfl (AB rfl (AC (AB rfl ?_)))))))))
   repeat refine nx rfl ?_
   exact AI rfl ⟨rfl, k1⟩
  | false =>
   (refine AB rfl (AE rfl (AP rfl (AE rfl (AP rfl (AE rfl (AH rfl (AE rfl (AD rfl (AE rfl (AF rfl (by assumption) ?_)))))))))) <;> refine AE rfl (Aq rfl rfl (by omega) (by omega) ?_))
   refine AE rfl (AQ hfn2 rfl ?_)
   rintro _ w2 ⟨rfl, k2⟩
   cases hc2 : B5 (vlS S x) (BI l m) a with
   | false =>
    refine AE rfl (AB rfl (AL rfl (AL rfl ?_)))
    refine AL rfl (AE rfl (AJ rfl (AB rfl (AJ rfl (AB rfl (AC (AB rfl ?_)))))))
    repeat refine nx rfl ?_
    exact AI rfl ⟨by simp [upd, Nat.beq], k1.trans k2⟩
   | true =>
    refine AE rfl (AB rfl (AE rfl (AP rfl (AE rfl (AP rfl ?_)))))
    refine AE rfl (AQ (says_ok w2 t S x l m b o _ (hTw.ext (k1.trans k2)) hz h8 hm (hf.keep (k1.trans k2) (fun _ _ => by simp)) hin) rfl ?_)
    rintro _ w3 ⟨rfl, k3⟩
    refine AE rfl (AK rfl (AB rfl (AJ rfl (AB rfl (AC (AB rfl ?_))))))
    repeat refine nx rfl ?_
    exact AI rfl ⟨by simp [upd, Nat.beq], (k1.trans k2).trans k3⟩
 ·have hl2 : args.length = 2 := by simpa [A8] using hba
  have hin := hall _ (pn_self (f := .mk 17 nm v bd args) rfl)
  obtain ⟨a, c, ha⟩ := two_args hl2
  obtain ⟨b', o', rfl, hfn⟩ := harg 1 c (by rw [ha]; rfl) w (Ext.refl _)
  have hno : CO (vlS S x) 17 nm v (BI l m (.mk 17 nm v bd args)) (args.map (B5 (vlS S x) (BI l m))) = (B5 (vlS S x) (BI l m) c && (BI l m (.mk 17 nm v bd args) || B5 (vlS S x) (BI l m) a)) := by rw [ha]; rfl
  rw [hno]
  refine AA (AT rfl rfl (by omega) (AC (AB rfl ?_)))
  repeat first | refine nx rfl ?_ | refine nf rfl ?_
  refine AA (AT rfl rfl (by omega) (AC (AB rfl ?_)))
  repeat first | refine nx rfl ?_ | refine nf rfl ?_
  refine AA (AT rfl rfl (by omega) (AC (AB rfl ?_)))
  repeat first | refine nx rfl ?_ | refine nf rfl ?_
  refine AA (AT rfl rfl (by omega) (AC (AB rfl ?_)))
  repeat first | refine nx rfl ?_ | refine nf rfl ?_
  refine AA (AT rfl rfl (by omega) (AC (AB rfl ?_)))
  repeat first | refine nx rfl ?_ | refine nf rfl ?_
  refine AA (AT rfl rfl (by omega) (AC (AB rfl ?_)))
  repeat first | refine nx rfl ?_ | refine nf rfl ?_
  refine AA (AT rfl rfl (by omega) (AC (AB rfl ?_)))
  repeat first | refine nx rfl ?_ | refine nf rfl ?_
  refine AA (Ai rfl rfl (by omega) (AC (AB rfl ?_)))
  repeat refine nx rfl ?_
  (refine AA (AP rfl (AP rfl (AH rfl (AD rfl (AF rfl (by assumption) ?_))))) <;> refine Aq rfl rfl (by omega) (by omega) ?_)
  refine AQ hfn rfl ?_
  rintro _ w1 ⟨rfl, k1⟩
  have q41 := k1.cell q4 (by simp)
  obtain ⟨_, _, e2, hfn2⟩ := harg 0 a (by rw [ha]; rfl) w1 k1
  cases e2
  cases hc1 : B5 (vlS S x) (BI l m) c with
  | false =>
   refine AB rfl (AL rfl (AL rfl (AL rfl (AL rfl (AL rfl (AL rfl ?_))))))
   refine AL rfl (AL rfl (AL rfl (AL rfl (AL rfl (AL rfl (AJ rfl (AB rfl (AC (AB rfl ?_)))))))))
   repeat refine nx rfl ?_
   exact AI rfl ⟨rfl, k1⟩
  | true =>
   (refine AB rfl (AE rfl (AP rfl (AE rfl (AP rfl (AE rfl (AH rfl (AE rfl (AD rfl (AE rfl (AF rfl (by assumption) ?_)))))))))) <;> refine AE rfl (Aq rfl rfl (by omega) (by omega) ?_))
   refine AE rfl (AQ hfn2 rfl ?_)
   rintro _ w2 ⟨rfl, k2⟩
   cases hc2 : B5 (vlS S x) (BI l m) a with
   | true =>
    refine AE rfl (AB rfl (AL rfl (AL rfl ?_)))
    refine AL rfl (AE rfl (AK rfl (AB rfl (AK rfl (AB rfl (AC (AB rfl ?_)))))))
    repeat refine nx rfl ?_
    exact AI rfl ⟨by simp [upd, Nat.beq], k1.trans k2⟩
   | false =>
    refine AE rfl (AB rfl (AE rfl (AP rfl (AE rfl (AP rfl ?_)))))
    refine AE rfl (AQ (says_ok w2 t S x l m b o _ (hTw.ext (k1.trans k2)) hz h8 hm (hf.keep (k1.trans k2) (fun _ _ => by simp)) hin) rfl ?_)
    rintro _ w3 ⟨rfl, k3⟩
    refine AE rfl (AJ rfl (AB rfl (AK rfl (AB rfl (AC (AB rfl ?_))))))
    repeat refine nx rfl ?_
    exact AI rfl ⟨by simp [upd, Nat.beq], (k1.trans k2).trans k3⟩
end Go.Proofs.YtkhhjdjmhbdjfaaGreatDoor
namespace Go.Proofs.YtkhhjdjmhbdjfaaGreatDoor
open Go.RowKit
set_option linter.unusedVariables false
variable {mk : Prop} [MK mk]
def evOk (S : List Sgn) (l : List Fml) : Prop := ∀ g ∈ l, (∃ i, A9 i g = true) ∧ isB (knS S) g = true ∧ ∀ y ∈ pnF g, y ∈ l
theorem next1_ok (w : World) (a : Option Addr) (c c1 c2 t m : Nat) (S : List Sgn) (x : Int) (l : List Fml) (okl : Nat → Prop) (i : Nat) (hl : SlAt fmlR okl w (.slice a l.length c) l) (hb : Blk w c1 23 [.slice a l.length c]) (hb2 : Blk w c2 60 [pt t]) (hi : i < l.length)
  (hT : Tick w t S x l m) (hz : ∀ x ∈ l, szF x ≤ 1000000) (h8 : l.length ≤ 8) (hm : m < 2 ^ l.length) (hev : evOk S l) :
  Fn Tryz.prog 34 [.int .i64 i, pt c1, pt c2] w fun u w' => u = .bool (nextM (vlS S x) (BI l m) (l.getD i Af)) ∧ Ext w w' := by
 obtain ⟨g, hx⟩ : ∃ g, l[i]? = some g := ⟨_, List.getElem?_eq_getElem hi⟩
 obtain ⟨b, o, rfl, hpx⟩ := hl.pf hx
 obtain ⟨aa, cc, _, q0, _, _, _, q4, qa⟩ := hpx.all
 have hg : l.getD i Af = g := by simp [List.getD_eq_getElem?_getD, hx]
 obtain ⟨⟨j, hba⟩, hkn, hpn⟩ := hev g (List.mem_of_getElem? hx)
 rw [hg]
 refine AR Tryz.func34 rfl Tryz.ntmps34 (Nat.le_of_ble_eq_true rfl) (by kernel_rfl) ?_
 repeat refine nx rfl ?_
 refine AA (AC (AB rfl ?_))
 repeat refine nx rfl ?_
 by_cases h15 : g.op = 15
 ·obtain ⟨op, nm, v, bd, args⟩ := g
  simp only [Fml.op, Fml.args] at *
  subst h15
  obtain ⟨_, hsh, _, hbl⟩ := BS hba
  have hl1 : args.length = 1 := by simpa [A8] using Bk hsh
  obtain ⟨y, hy⟩ := Ck hl1
  obtain ⟨b', o', rfl, hpy⟩ := qa 0 y (by rw [hy]; rfl)
  have hgd : args.getD 0 Af = y := by rw [hy]; rfl
  have hym : y ∈ args := by rw [hy]; simp
  have e : nextM (vlS S x) (BI l m) (.mk 15 nm v bd args) = B5 (vlS S x) (BI l m) y := by
   refine (if_pos (show (Fml.mk 15 nm v bd args).op = 15 from rfl)).trans ?_
   exact congrArg _ hgd
  (refine AA (AF rfl (Blk.cell (by assumption) (by rfl)) ?_) <;> refine AG rfl (Au rfl rfl rfl (by omega) (AD rfl (AF rfl (by assumption) ?_))) <;> refine Ai rfl rfl (by omega) ?_)
  repeat refine nx rfl ?_
  refine Ad (.read 0 (.read 1 (.read 2 (.read 3 (.read 4 (.read 5 (.read 6 (.alt 7 (.read 8 .done) .stop)))))))) Ax (by kernel_rfl) (fun wd kd ed => ⟨Ext wd, ?_, ?_⟩)
  ·exact Ext.refl _
  have s1 : ∀ V, Ext wd V → V.cell? ⟨c2, 0, none⟩ = some (pt t) := fun V e => (hb2.keep (kd.trans e) (by simp)).cell rfl
  have s2 : ∀ V, Ext wd V → V.cell? ⟨c1, 0, none⟩ = some (.slice (some ⟨b, o, none⟩) l.length c) := fun V e => (hb.keep (kd.trans e) (by simp)).cell rfl
  have s3 : ∀ V, Ext wd V → V.cell? ⟨b, o + i * 5 + 4, none⟩ = some (.slice (some ⟨b', o', none⟩) args.length cc) := fun V e => (kd.trans e).cell q4 (by simp)
  refine D_R rfl rfl (fun W hW => AF rfl (s1 W hW) Z3) (D_R rfl rfl (fun W hW => AF rfl (s2 W hW) Z3) (D_R rfl rfl (fun W hW => AG rfl Z3) (D_R rfl rfl (fun W hW => Au rfl rfl rfl (by omega) Z3) (D_R rfl rfl (fun W hW => AD rfl Z3) (D_R rfl rfl (fun W hW => AF rfl (s3 W hW) Z3) (D_R rfl rfl (fun W hW => Aq rfl rfl (by omega) (by omega) Z3) ?_))))))
  refine D_E rfl ?_
  refine AQ (now_ok wd t S x l m (hT.ext kd) hz h8 hm (dpF y) wd b' _ y _ (Nat.le_refl _) (Ext.refl _) ((hpy.keep kd (fun _ _ => by simp)).mono fun _ _ => trivial) (hbl y hym) ((is_iff.1 hkn).2 y hym) (fun z hz => hpn z (pn_args (f := .mk 15 nm v bd args) hym hz))) rfl ?_
  rintro _ w2 ⟨rfl, k2⟩
  refine AO ⟨Ext wd, fun _ e => e, k2, ?_⟩
  refine D_R rfl rfl (fun W hW => AC (AB rfl Z3)) (Ah ?_)
  repeat refine nx rfl ?_
  exact AI rfl ⟨by rw [e]; rfl, kd.trans k2⟩
 ·have e : nextM (vlS S x) (BI l m) g = B5 (vlS S x) (BI l m) g := if_neg h15
  (refine AA (AF rfl (Blk.cell (by assumption) (by rfl)) ?_) <;> refine AG rfl (Au rfl rfl rfl (by omega) (AD rfl (AF rfl (by assumption) ?_))) <;> refine AT rfl rfl (by omega) ?_)
  repeat first | refine nx rfl ?_ | refine nf rfl ?_
  refine Ad (.read 0 (.read 1 (.read 2 (.read 3 (.alt 4 (.read 5 .done) .stop))))) Ax (by kernel_rfl) (fun wd kd ed => ⟨Ext wd, ?_, ?_⟩)
  ·exact Ext.refl _
  have s1 : ∀ V, Ext wd V → V.cell? ⟨c2, 0, none⟩ = some (pt t) := fun V e => (hb2.keep (kd.trans e) (by simp)).cell rfl
  have s2 : ∀ V, Ext wd V → V.cell? ⟨c1, 0, none⟩ = some (.slice (some ⟨b, o, none⟩) l.length c) := fun V e => (hb.keep (kd.trans e) (by simp)).cell rfl
  refine D_R rfl rfl (fun W hW => AF rfl (s1 W hW) Z3) (D_R rfl rfl (fun W hW => AF rfl (s2 W hW) Z3) (D_R rfl rfl (fun W hW => AG rfl Z3) (D_R rfl rfl (fun W hW => Au rfl rfl rfl (by omega) Z3) ?_)))
  refine D_E rfl ?_
  refine AQ (now_ok wd t S x l m (hT.ext kd) hz h8 hm (dpF g) wd b _ g _ (Nat.le_refl _) (Ext.refl _) ((hpx.keep kd (fun _ _ => by simp)).mono fun _ _ => trivial) hba hkn hpn) rfl ?_
  rintro _ w2 ⟨rfl, k2⟩
  refine AO ⟨Ext wd, fun _ e => e, k2, ?_⟩
  refine D_R rfl rfl (fun W hW => AC (AB rfl Z3)) (Ah ?_)
  repeat refine nx rfl ?_
  exact AI rfl ⟨by rw [e]; rfl, kd.trans k2⟩
theorem own_ints {w : World} {B e n : Nat} {v : Value} {L : List Value} (h : w.ownsRow B e 1 v n L) : ∃ a c, v = .slice a n c ∧ ∀ i u, L[i]? = some u → ∃ g o, a = some ⟨g, o, none⟩ ∧ w.cell? ⟨g, o + i, none⟩ = some u := by
 obtain ⟨a, c, rfl, _, _, _, h4⟩ := Az (ok := As) h fun _ _ => trivial
 refine ⟨a, c, rfl, fun i u hu => ?_⟩
 rcases h4 with h0 | ⟨b, o, e, _, hc⟩
 ·have := (List.getElem?_eq_some_iff.1 hu).1
  have := h.1; omega
 ·exact ⟨b, o, e, hc i u hu⟩
theorem next_ok (w : World) (sv v : Value) (S : List Sgn) (l : List Fml) (m : Nat) (x : Int) (okl : Nat → Prop) (hS : SlAt sgnR As w sv S) (hv : BG S = true) (hx0 : 0 ≤ x) (hx1 : x < Bm S)
  (hl : SlAt fmlR okl w v l) (hu : ∀ b, okl b → Unm w b) (hG : GF w) (hK : KY w) (hN : 3 ≤ w.heap.size) (hok : listOk l) (hm : m < 2 ^ l.length) (hev : evOk S l) :
  Fn Tryz.prog 9 [sv, v, .int .i64 m, .int .i64 x] w fun u w' => u = .int .i64 (nextI (vlS S x) l m : Nat) ∧ Ext w w' := by
 obtain ⟨sa, sc, rfl, _⟩ := hS.len
 obtain ⟨a, c, rfl, hlm⟩ := hl.len
 have hll := hl.lt (show (0 : Nat) < 5 by omega)
 have hz : ∀ x ∈ l, szF x ≤ 1000000 := fun y hy => by
  obtain ⟨i, hi⟩ := List.getElem?_of_mem hy
  have := (hok.2 i y hi).2.1
  simp [Ci] at this; omega
 refine AR Tryz.func9 rfl Tryz.ntmps9 (Nat.le_of_ble_eq_true rfl) (by kernel_rfl) ?_
 repeat refine nx rfl ?_
 (refine AA ?_; refine A5 (L := [.slice a l.length c]) rfl (fun w1 n1 => ?_))
 refine AC (AG rfl ?_)
 repeat refine nx rfl ?_
 have k1 := n1.keep
 have b1 := n1.blk
 (refine AA (AM rfl (AF rfl (Blk.cell (by assumption) (by rfl)) ?_)) <;> refine AG rfl (AG rfl ?_))
 refine AQ (tickOf_ok w1 _ _ S l m x _ As (hS.ext k1) hv hx0 hx1 (hll.ext k1) (fun b hb => (hu b hb.1).eq (k1.block b hb.2 (by simp))) (hG.ext k1) (hK.keep k1 (by simp)) (Nat.le_trans hN k1.size) hok hm) rfl ?_
 rintro _ w2 ⟨t, r, rfl, k2, ht, hbt, hown⟩
 have k12 := k1.trans k2
 obtain ⟨ra, rc, rfl, hri⟩ := own_ints hown
 have hT : Tick w2 t S x l m := ⟨sa, sc, ra, rc, a, c, hbt, hS.ext k12, fun i hi => hri i _ (by simp [valsC, hi]), (hll.ext k12).mono fun b hb => ⟨(hu b hb.1).eq (k12.block b hb.2 (by simp)), Nat.lt_of_lt_of_le hb.2 k12.size⟩⟩
 refine Cj rfl (BA rfl rfl (BA rfl rfl ?_))
 refine Ar (fun w3 n3 => ?_)
 refine Aa (v := pt t) rfl rfl rfl n3.blk (by simp) (fun w4 p4 => ?_)
 refine AC (AB rfl ?_)
 repeat refine nx rfl ?_
 have k24 : Ext w2 w4 := n3.keep.keep p4.keep (by simp)
 have b4 : Blk w4 w2.heap.size 60 [pt t] := p4.blk
 have b14 := b1.keep (k2.trans k24) (by simp)
 have k4 := k12.trans k24
 refine AA (AB rfl (Ak rfl ?_))
 repeat first | refine nx rfl ?_ | refine nf rfl ?_
 (refine AA (AF rfl (Blk.cell (by assumption) (by rfl)) ?_) <;> refine AZ rfl (Ae rfl rfl ?_))
 refine AQ (memoryOf_ok w4 _ l.length (fun i => nextM (vlS S x) (BI l m) (l.getD i Af)) (by have := hok.1; omega) ⟨_, [pt w.heap.size, pt w2.heap.size], inferInstance, rfl, fun W i e hi => next1_ok W a c w.heap.size w2.heap.size t m S x l _ i (hll.ext (k4.trans e)) (b14.keep e (by simp)) (b4.keep e (by simp)) hi (hT.ext (k24.trans e)) hz hok.1 hm hev⟩) rfl ?_
 rintro _ w5 ⟨rfl, k5⟩
 refine AC (AG rfl ?_)
 repeat refine nx rfl ?_
 exact AI rfl ⟨rfl, k4.trans k5⟩
end Go.Proofs.YtkhhjdjmhbdjfaaGreatDoor
namespace Go.Proofs.YtkhhjdjmhbdjfaaGreatDoor
open Go.RowKit
set_option linter.unusedVariables false
variable {mk : Prop} [MK mk]
theorem formM_kind (op : Int) : (BR op).past = pstB op ∧ (BR op).future = futB op ∧ (BR op).loose = C2 op := by
 by_cases h : isOpB op = true
 ·have h1 : 1 ≤ op ∧ op < 20 := by simpa [isOpB] using h
  have hm : BR op = formsL.getD op.toNat zeroForm := by unfold BR; rw [if_pos h]
  rw [hm]
  have : op = 1 ∨ op = 2 ∨ op = 3 ∨ op = 4 ∨ op = 5 ∨ op = 6 ∨ op = 7 ∨ op = 8 ∨ op = 9 ∨ op = 10 ∨ op = 11 ∨ op = 12 ∨ op = 13 ∨ op = 14 ∨ op = 15 ∨ op = 16 ∨ op = 17 ∨ op = 18 ∨ op = 19 := by omega
  rcases this with rfl | rfl | rfl | rfl | rfl | rfl | rfl | rfl | rfl | rfl | rfl | rfl | rfl | rfl | rfl | rfl | rfl | rfl | rfl <;> exact ⟨rfl, rfl, rfl⟩
 ·have h1 : ¬(1 ≤ op ∧ op < 20) := by simpa [isOpB] using h
  have hm : BR op = zeroForm := by unfold BR; rw [if_neg h]
  rw [hm]
  refine ⟨?_, ?_, ?_⟩
  ·show false = pstB op
   symm; simp [pstB]; omega
  ·show false = futB op
   symm; simp [futB]; omega
  ·show false = C2 op
   symm; simp [C2]; omega
theorem bareB_eq (i : Bool) (op : Int) (nm : List UInt8) (v b : Int) (args : List Fml) : A9 i (.mk op nm v b args) = (C2 op && BX op nm v b args.length && !(i && futB op) && (if op = 4 then negOk (.mk op nm v b args) else true) && bareL (i || pstB op) args) := by
 cases args <;> simp only [A9] <;> rfl
theorem bareN_eq (op : Int) (nm : List UInt8) (v b : Int) (args : List Fml) (i : Bool) (hz : args.length ≤ 1000000) : bareN (.mk op nm v b args, i) = (C2 op && BX op nm v b args.length && !(i && futB op) && (if op = 4 then negOk (.mk op nm v b args) else true)) := by
 obtain ⟨_, h2, h3⟩ := formM_kind op
 unfold bareN
 simp only
 rw [shapeF_eq (.mk op nm v b args) hz]
 show ((BR op).loose && BX op nm v b args.length && !((BR op).future && i) && (if op = 4 then negOk (.mk op nm v b args) else true)) = _
 rw [h2, h3, Bool.and_comm (futB op) i]
theorem bareG_aux : ∀ (n : Nat) (f : Fml) (i : Bool), szF f ≤ n → n ≤ 1000000 → (Ct i f).all bareN = A9 i f
 | 0, f, i, hz, _ => by rw [BW] at hz; omega
 | n + 1, .mk op nm v b args, i, hz, hn => by
  rw [BW] at hz
  have hz' : szL args + 1 ≤ n + 1 := hz
  have hl : ∀ (l : List Fml) (j : Bool), (∀ a ∈ l, a ∈ args) → (CW j l).all bareN = bareL j l := by
   intro l
   induction l with
   | nil => intro j _; rfl
   | cons a l ih =>
    intro j hm
    have h1 := BY (hm a (by simp))
    rw [CW, List.all_append, bareG_aux n a j (by omega) (by omega), bareL, ih j fun c hc => hm c (by simp [hc])]
  rw [Ct, List.all_cons, bareN_eq _ _ _ _ _ _ (by have := CQ args; omega), hl args _ (fun a h => h), bareB_eq, (formM_kind op).1]
theorem bareG_eq {f : Fml} (hz : szF f ≤ 1000000) : bareG f = A9 false f := bareG_aux _ f false hz (Nat.le_refl _)
theorem pastG_of : ∀ (n : Nat) (f : Fml) (j : Bool), szF f ≤ n → Bv f = true → (∃ i, A9 i f = true) → (Ct j f).all pastN = true
 | 0, f, j, hz, _, _ => by rw [BW] at hz; omega
 | n + 1, .mk op nm v b args, j, hz, hp, ⟨i, hb⟩ => by
  rw [BW] at hz
  have hz' : szL args + 1 ≤ n + 1 := hz
  obtain ⟨h1, _, _, h4⟩ := BS hb
  simp only [Bv, Bool.and_eq_true, Bool.not_eq_true', Bool.or_eq_false_iff, decide_eq_false_iff_not] at hp
  have hl : ∀ (l : List Fml) (j : Bool), (∀ a ∈ l, a ∈ args) → (CW j l).all pastN = true := by
   intro l
   induction l with
   | nil => intro j _; rfl
   | cons a l ih =>
    intro j hm
    have h5 := BY (hm a (by simp))
    rw [CW, List.all_append, pastG_of n a j (by omega) (pastL_mem hp.2 (hm a (by simp))) ⟨_, h4 a (hm a (by simp))⟩, ih j fun c hc => hm c (by simp [hc])]; rfl
  rw [Ct, List.all_cons, hl args _ (fun a h => h), Bool.and_true]
  unfold pastN
  show (!(BR op).future) = true
  rw [(formM_kind op).2.1]
  have h5 := CP h1
  simp [futB]
  omega
theorem bare_rem {f : Fml} {i : Bool} (h : A9 i f = true) (hr : Cm f.op = true) : A9 false f = true ∧ Bv f = true := by
 obtain ⟨op, nm, v, b, args⟩ := f
 have ho : op = 15 ∨ op = 16 ∨ op = 17 := by
  simp only [Cm, Fml.op, Bool.or_eq_true] at hr
  rcases hr with (h | h) | h
  ·exact .inl (of_decide_eq_true h)
  ·exact .inr (.inl (of_decide_eq_true h))
  ·exact .inr (.inr (of_decide_eq_true h))
 obtain ⟨h1, h2, h3, h4⟩ := BS h
 have e : ∀ j, (j || pstB op) = true := fun j => by rcases ho with rfl | rfl | rfl <;> cases j <;> rfl
 rw [e] at h4
 refine ⟨bare_mk h1 h2 (fun h => by cases h) (fun h4' => by omega) (by rw [e]; exact h4), ?_⟩
 rw [Bv, pastL_of fun a ha => bare_past a (h4 a ha)]
 rcases ho with rfl | rfl | rfl <;> rfl
def Clo (m : List Fml) : Prop := ∀ a x b, m = a ++ x :: b → ∀ g ∈ pnF x, g ≠ x → g ∈ a
theorem clo_app {m n : List Fml} (h : Clo m) (k : Clo n) : Clo (m ++ n) := by
 intro a x b e g hg hne
 rcases List.append_eq_append_iff.1 e with ⟨c, h1, h2⟩ | ⟨c, h1, h2⟩
 ·rw [h1]
  exact List.mem_append_right _ (k c x b h2 g hg hne)
 ·cases c with
  | nil =>
   have := k [] x b (by simpa using h2.symm) g hg hne
   cases this
  | cons y c =>
   simp only [List.cons_append, List.cons.injEq] at h2
   obtain ⟨rfl, h2⟩ := h2
   exact h a x c h1 g hg hne
theorem clo_pn : ∀ (n : Nat) (f : Fml), szF f ≤ n → Clo (pnF f)
 | 0, f, hz => by rw [BW] at hz; omega
 | n + 1, .mk op nm v b args, hz => by
  rw [BW] at hz
  have hz' : szL args + 1 ≤ n + 1 := hz
  have hl : ∀ (l : List Fml), (∀ a ∈ l, a ∈ args) → Clo (l.flatMap pnF) := by
   intro l
   induction l with
   | nil => intro _ a x b e; simp at e
   | cons a l ih =>
    intro hm
    have h5 := BY (hm a (by simp))
    rw [List.flatMap_cons]
    exact clo_app (clo_pn n a (by omega)) (ih fun c hc => hm c (by simp [hc]))
  have hmain := hl args fun a h => h
  rw [pnF_eq]
  by_cases hr : Cm op = true
  ·rw [if_pos hr]
   intro a x b' e g hg hne
   rcases List.append_eq_append_iff.1 e with ⟨c, h1, h2⟩ | ⟨c, h1, h2⟩
   ·cases c with
    | nil =>
     simp only [List.nil_append, List.cons.injEq] at h2
     obtain ⟨rfl, _⟩ := h2
     rw [h1, List.append_nil]
     rw [pnF_eq, if_pos hr] at hg
     rcases List.mem_append.1 hg with hg | hg
     ·exact hg
     ·simp at hg; exact absurd hg hne
    | cons y c => simp at h2
   ·cases c with
    | nil =>
     simp only [List.nil_append] at h2
     simp only [List.append_nil] at h1
     simp only [List.cons.injEq] at h2
     obtain ⟨rfl, _⟩ := h2
     rw [← h1]
     rw [pnF_eq, if_pos hr] at hg
     rcases List.mem_append.1 hg with hg | hg
     ·exact hg
     ·simp at hg; exact absurd hg hne
    | cons y c =>
     simp only [List.cons_append, List.cons.injEq] at h2
     obtain ⟨rfl, h2⟩ := h2
     exact hmain a x c h1 g hg hne
  ·rw [if_neg hr, List.append_nil]; exact hmain
theorem clo_snoc {m : List Fml} {x : Fml} (h : Clo (m ++ [x])) : Clo m ∧ ∀ g ∈ pnF x, g ≠ x → g ∈ m :=
 ⟨fun a y b e g hg hne => h a y (b ++ [x]) (by rw [e]; simp) g hg hne, fun g hg hne => h m x [] rfl g hg hne⟩
theorem nodesM_at (m : List Fml) (hc : Clo m) : ∀ (k : Nat) (x : Fml), (m.foldl addN [])[k]? = some x → Cz ((m.foldl addN []).take k) x = none ∧ ∀ g ∈ pnF x, g ≠ x → g ∈ (m.foldl addN []).take k := by
 obtain ⟨r, hr⟩ : ∃ r : List Fml, r.reverse = m := ⟨m.reverse, List.reverse_reverse m⟩
 subst hr
 induction r with
 | nil => intro k x h; simp at h
 | cons y r ih =>
  rw [List.reverse_cons] at hc
  obtain ⟨h1, h2⟩ := clo_snoc hc
  have ih := ih h1
  rw [List.reverse_cons, List.foldl_append, List.foldl_cons, List.foldl_nil]
  generalize hl : (r.reverse.foldl addN []) = l at ih ⊢
  intro k x hx
  unfold addN at hx ⊢
  cases hf : Cz l y with
  | some i => rw [hf] at hx; simp only at hx ⊢; exact ih k x hx
  | none =>
   rw [hf] at hx
   simp only at hx ⊢
   by_cases hk : k < l.length
   ·rw [List.getElem?_append_left hk] at hx
    obtain ⟨g1, g2⟩ := ih k x hx
    rw [List.take_append_of_le_length (by omega)]
    exact ⟨g1, g2⟩
   ·have hkl : k = l.length := by
     have := (List.getElem?_eq_some_iff.1 hx).1
     simp at this; omega
    subst hkl
    rw [List.getElem?_append_right (Nat.le_refl _), Nat.sub_self] at hx
    obtain rfl : y = x := by simpa using hx
    rw [List.take_left]
    refine ⟨hf, fun g hg hne => ?_⟩
    have := h2 g hg hne
    rw [← hl]
    exact (mem_foldN _ _).2 (.inr this)
theorem pn_size {f g : Fml} (h : g ∈ pnF f) : szF g ≤ szF f := by
 have := pn_sub (p := fun x => szF x ≤ szF f) (fun {op v b nm args} hp a ha => by
  rw [BW] at hp
  have h5 := BY (l := args) ha
  have : szL args + 1 ≤ szF f := hp
  omega) (Nat.le_refl (szF f)) h
 exact this
theorem pn_dp {f g : Fml} (h : g ∈ pnF f) : dpF g ≤ dpF f := by
 have := pn_sub (p := fun x => dpF x ≤ dpF f) (fun {op v b nm args} hp a ha => by
  rw [Bd] at hp
  have h5 := Bp (l := args) ha
  have : dpL args + 1 ≤ dpF f := hp
  omega) (Nat.le_refl (dpF f)) h
 exact this
theorem nodes_list {f : Fml} (hk : Ci f = true) (h8 : (BQ f).length ≤ 8) : listOk (BQ f) := by
 have hk2 := hk
 simp only [Ci, Bool.and_eq_true, decide_eq_true_eq] at hk2
 obtain ⟨⟨hz, hd⟩, hb⟩ := hk2
 rw [bareG_eq (by omega)] at hb
 refine ⟨h8, fun k x hx => ?_⟩
 have hm : x ∈ pnF f := mem_nodes.1 (List.mem_of_getElem? hx)
 obtain ⟨i, hbx⟩ := bare_pn ⟨false, hb⟩ hm
 have hr := pn_rem hm
 obtain ⟨b1, b2⟩ := bare_rem hbx hr
 have hzx := pn_size hm
 have hdx := pn_dp hm
 obtain ⟨n1, n2⟩ := nodesM_at (pnF f) (clo_pn _ f (Nat.le_refl _)) k x hx
 refine ⟨hr, ?_, pastG_of _ x false (Nat.le_refl _) b2 ⟨_, b1⟩, n1, n2⟩
 simp only [Ci, Bool.and_eq_true, decide_eq_true_eq]
 exact ⟨⟨by omega, by omega⟩, by rw [bareG_eq (by omega)]; exact b1⟩
theorem nodes_ev {S : List Sgn} {f : Fml} (hb : A9 false f = true) (hk : isB (knS S) f = true) : evOk S (BQ f) := by
 intro g hg
 have hm := mem_nodes.1 hg
 refine ⟨bare_pn ⟨false, hb⟩ hm, pn_sub (p := fun x => isB (knS S) x = true) (fun h a ha => (is_iff.1 h).2 a ha) hk hm, fun y hy => mem_nodes.2 (pn_trans hm hy)⟩
end Go.Proofs.YtkhhjdjmhbdjfaaGreatDoor
namespace Go.Proofs.YtkhhjdjmhbdjfaaGreatDoor
open Go.RowKit Go.Sort Go.Shelf
set_option linter.unusedVariables false
theorem ext_grow {w w' : World} (k : Ext w w') : ∃ q os, w' = grow (w.drewN q) os := by
 refine ⟨w'.drawn - w.drawn, w'.heap.extract w.heap.size w'.heap.size, ?_⟩
 have h1 := k.os
 have h2 := k.tape
 have h3 := k.output
 have h4 := k.drawn
 have h5 := k.size
 have h6 := k.block
 obtain ⟨heap, tape, drawn, os, output⟩ := w
 obtain ⟨heap', tape', drawn', os', output'⟩ := w'
 simp only at h1 h2 h3 h4 h5 h6
 subst h1 h2 h3
 simp only [grow, World.drewN, World.mk.injEq, and_true, true_and]
 refine ⟨?_, by omega⟩
 apply Array.ext_getElem?
 intro i
 rw [Array.getElem?_append]
 by_cases hi : i < heap.size
 ·rw [if_pos hi]; exact h6 i hi (by simp)
 ·rw [if_neg hi]
  simp only [Array.getElem?_extract]
  by_cases hi' : i < heap'.size
  ·rw [if_pos (by omega)]; congr 1; omega
  ·rw [if_neg (by omega)]; exact Array.getElem?_eq_none (by omega)
def Cel (ok : Nat → Prop) (w : World) : Type := { p : List Value × Fml // p.1.length = 5 ∧ szF p.2 ≤ 1000000 ∧ FAt ok w (.agg p.1.toArray) p.2 }
instance (ok : Nat → Prop) (w : World) : Inhabited (Cel ok w) := ⟨⟨(zero5, Af), rfl, by decide, FAt.leaf ok w 0 [] 0 0⟩⟩
section
variable {ok : Nat → Prop} {w : World}
def encC (x : Cel ok w) : List Value := x.1.1
def fmlC (x : Cel ok w) : Fml := x.1.2
theorem encC_len (x : Cel ok w) : (encC x).length = 5 := x.2.1
theorem encC_one (x : Cel ok w) : ∀ v ∈ encC x, v.oneCell' = true := by
 obtain ⟨c, e, _, h⟩ := x.2.2.2.cells
 have : x.1.1 = c := by simpa using e
 unfold encC
 rw [this]
 exact h
theorem cel_list : ∀ {l : List Fml} {L : List (List Value)}, FsAt ok w L l → (∀ x ∈ l, szF x ≤ 1000000) → ∃ D : List (Cel ok w), D.map encC = L ∧ D.map fmlC = l
 | [], L, h, _ => ⟨[], by have := List.eq_nil_of_length_eq_zero (l := L) (by simpa using h.1); simp [this], rfl⟩
 | x :: l, [], h, _ => by have := h.1; simp at this
 | x :: l, c :: L, h, hz => by
  obtain ⟨D, h1, h2⟩ := cel_list (l := l) (L := L) ⟨by simpa using h.1, fun c hc => h.2.1 c (by simp [hc]), fun i c g hc hg => h.2.2 (i + 1) c g (by simpa using hc) (by simpa using hg)⟩ (fun y hy => hz y (by simp [hy]))
  exact ⟨⟨(c, x), h.2.1 c (by simp), hz x (by simp), h.2.2 0 c x rfl rfl⟩ :: D, congrArg (c :: ·) h1, congrArg (x :: ·) h2⟩
theorem cel_fs (D : List (Cel ok w)) : FsAt ok w (D.map encC) (D.map fmlC) := by
 refine ⟨by simp, fun c hc => ?_, fun i c g hc hg => ?_⟩
 ·obtain ⟨x, _, rfl⟩ := List.mem_map.1 hc
  exact encC_len x
 ·rw [List.getElem?_map] at hc hg
  cases hx : D[i]? with
  | none => rw [hx] at hc; cases hc
  | some x =>
   rw [hx] at hc hg
   cases hc; cases hg
   exact x.2.2.2
end
theorem flatK_list {α : Type} [Inhabited α] (enc : α → List Value) (h5 : ∀ x, (enc x).length = 5) (D : Array α) : (flatK enc 5 D).toList = (D.toList.map enc).flatten := by
 have hl : ((D.toList.map enc).flatten).length = D.size * 5 := by rw [CT 5 _ (fun c hc => by obtain ⟨x, _, rfl⟩ := List.mem_map.1 hc; exact h5 x)]; simp
 refine List.ext_getElem? fun t => ?_
 by_cases ht : t < D.size * 5
 ·have hd : t / 5 < D.size := by omega
  have e1 : (flatK enc 5 D).toList[t]? = some (enc D[t / 5]!)[t % 5]! := by
   have hs : t < (flatK enc 5 D).size := by simpa using ht
   rw [Array.getElem?_toList, Array.getElem?_eq_getElem hs, ← get_flatK enc 5 D t ht, getElem!_pos (flatK enc 5 D) t hs]
  rw [e1]
  symm
  have e3 : (enc D[t / 5]!)[t % 5]? = some (enc D[t / 5]!)[t % 5]! := by
   have hm : t % 5 < (enc D[t / 5]!).length := by rw [h5]; omega
   rw [List.getElem?_eq_getElem hm, getElem!_pos (enc D[t / 5]!) (t % 5) hm]
  have e2 := C9 5 (D.toList.map enc) (t / 5) (t % 5) (enc D[t / 5]!) (enc D[t / 5]!)[t % 5]! (fun c hc => by obtain ⟨x, _, rfl⟩ := List.mem_map.1 hc; exact h5 x) (by rw [List.getElem?_map, Array.getElem?_toList, Array.getElem?_eq_getElem hd, getElem!_pos D (t / 5) hd]; rfl) e3
  rw [show t / 5 * 5 + t % 5 = t by omega] at e2
  exact e2
 ·rw [List.getElem?_eq_none (by simp; omega), List.getElem?_eq_none (by omega)]
theorem swo_cmp {ok : Nat → Prop} {w : World} : SWO (ltOf fun (x y : Cel ok w) => BV (fmlC x) (fmlC y)) where
 irrefl x := by simp only [ltOf, decide_eq_false_iff_not]; exact cmp_irr _
 trans x y z h1 h2 := by
  simp only [ltOf, decide_eq_true_eq] at h1 h2 ⊢
  exact CY _ _ _ h1 h2
 ntrans x y z h1 h2 := by
  simp only [ltOf, decide_eq_false_iff_not] at h1 h2 ⊢
  intro h3
  have f1 := cmpF_flip (fmlC x) (fmlC y)
  by_cases h0 : BV (fmlC x) (fmlC y) = 0
  ·rw [(Bt _ _).1 h0] at h3; exact h2 h3
  ·exact h2 (CY _ _ _ (by omega) h3)
theorem sortW_at {ok : Nat → Prop} {w : World} {g e : Nat} {cur : Array Value} {D : Array (Cel ok w)} (hg : w.heap[g]? = some (.cells cur e (0, 0))) (hsz : D.size * 5 ≤ cur.size) (m : Nat) (os : Array Obj) :
  Keep [g] w (sortWorldK encC 5 w g 0 m D os) ∧ ∃ cur' : Array Value, (sortWorldK encC 5 w g 0 m D os).heap[g]? = some (.cells cur' e (0, 0)) ∧ cur'.size = cur.size ∧ cur'.toList.take (D.size * 5) = (D.toList.map encC).flatten := by
 have hlt : g < w.heap.size := (Array.getElem?_eq_some_iff.1 hg).1
 have hh : (sortWorldK encC 5 w g 0 m D os).heap = w.heap.modify g (onCells (putCells id 0 (flatK encC 5 D))) ++ os := rfl
 refine ⟨⟨rfl, rfl, rfl, by rw [hh]; simp, fun b hb hx => ?_, fun h => h.elim, Nat.le_add_right _ _⟩, putCells id 0 (flatK encC 5 D) cur, ?_, by simp [putCells], ?_⟩
 ·rw [hh, Array.getElem?_append_left (by simpa using hb), Array.getElem?_modify, if_neg (by simp at hx; omega)]
 ·rw [hh, Array.getElem?_append_left (by simpa using hlt), Array.getElem?_modify, if_pos rfl, hg]
  rfl
 ·rw [← flatK_list encC encC_len]
  refine List.ext_getElem? fun t => ?_
  rw [List.getElem?_take]
  by_cases ht : t < D.size * 5
  ·rw [if_pos ht]
   have hs : t < (flatK encC 5 D).size := by simpa using ht
   have hc : t < cur.size := by omega
   simp only [putCells, Array.getElem?_toList, Array.getElem?_mapIdx, Array.getElem?_eq_getElem hc, Option.map_some]
   rw [if_pos ⟨Nat.zero_le _, by omega⟩, Array.getElem?_eq_getElem hs, Nat.sub_zero, getElem!_pos (flatK encC 5 D) t hs]
   rfl
  ·rw [if_neg ht, List.getElem?_eq_none (by simp; omega)]
def Srt (l : List Fml) : Prop := l.Pairwise fun a b => ¬ BV b a < 0
abbrev cmpV : Value := .func (.func 59) #[] #[]
theorem sort_ok (w : World) (B : Nat) (v : Value) (l : List Fml) (L : List (List Value)) (ok : Nat → Prop) (ho : w.ownsRow B 25 5 v l.length L.flatten) (hF : FsAt ok w L l)
  (hok : ∀ b, ok b → Unm w b ∧ b < w.heap.size ∧ v.ownBlock ≠ some b) (hz : ∀ x ∈ l, szF x ≤ 1000000) (hn : l.length < 4611686018427387904) :
  Fn Tryz.prog 141 [v, cmpV] w fun u w' => u = .tuple #[] ∧ Keep v.ownBlock.toList w w' ∧ ∃ L' l', l'.Perm l ∧ Srt l' ∧ w'.ownsRow B 25 5 v l.length L'.flatten ∧ FsAt ok w' L' l' := by
 rcases ho.2 with ⟨rfl, h0⟩ | ⟨g, cap, cur, rfl, hB, hg, hnc, hcm, hcs, ht⟩
 ·have hcon := AnyF.slices_SortFunc_none (P := Tryz.prog) Tryz.sortF none 0 cmpV w
  change Calls Tryz.prog 141 _ _ _ at hcon
  have hl : l = [] := List.eq_nil_of_length_eq_zero h0
  subst hl
  refine Calls.mono hcon ?_
  rintro e w' ⟨rfl, rfl⟩
  exact ⟨rfl, Keep.refl _ _, L, [], List.Perm.refl _, List.Pairwise.nil, ho, hF⟩
 ·obtain ⟨D, hD1, hD2⟩ := cel_list hF hz
  have hDl : D.length = l.length := by rw [← hD2]; simp
  have hglt : g < w.heap.size := (Array.getElem?_eq_some_iff.1 hg).1
  have hne : ∀ b, ok b → b ∉ [g] := fun b hb hx => by simp at hx; exact (hok b hb).2.2 (by rw [hx]; rfl)
  have hcap : l.length * 5 ≤ cur.size := by rw [hcs]; exact Nat.mul_le_mul_right _ hnc
  have hH : HoldsK encC 5 w g 0 D.toArray := by
   intro j hj
   have hj' : j < l.length * 5 := by simpa [hDl] using hj
   have hs : j < (flatK encC 5 D.toArray).size := hj
   have e1 : (flatK encC 5 D.toArray).toList[j]? = cur.toList[j]? := by
    rw [flatK_list encC encC_len]
    show (D.map encC).flatten[j]? = _
    rw [hD1, ← ht, List.getElem?_take, if_pos hj']
   rw [Array.getElem?_toList, Array.getElem?_toList, Array.getElem?_eq_getElem hs] at e1
   constructor
   ·rw [Nat.zero_add, getElem!_pos _ j hs]
    simp only [World.cell?, hg]
    exact e1.symm
   ·simp [World.frozen?, hg]
  have eg : ∀ args w, (callFunc 59 args).run Tryz.prog w = .ok (.enter 59 args) w := enters_of Tryz.func59 (by kernel_rfl) rfl
  have hcmp : CmpLays Tryz.prog 59 #[] (encC (ok := ok) (w := w)) 5 (fun x y => BV (fmlC x) (fmlC y)) g 0 D.toArray.size w := by
   intro m os dk hdk x y
   obtain ⟨kW, _⟩ := sortW_at hg (D := dk) (by rw [hdk]; simpa [hDl] using hcap) m os
   have h := fcompare_ok (sortWorldK encC 5 w g 0 m dk os) (.agg (encC x).toArray) (.agg (encC y).toArray) (fmlC x) (fmlC y) ok ok (x.2.2.2.keep kW hne) (y.2.2.2.keep kW hne) (.inl fun b hb => (hok b hb).1.eq (kW.block b (hok b hb).2.1 (hne b hb))) x.2.2.1
   refine Calls.mono h ?_
   intro e w' he
   cases e with
   | returned u =>
    obtain ⟨rfl, k⟩ := he
    exact ⟨rfl, ext_grow k⟩
   | panicked ch => exact he.elim
   | outgrown => exact he.elim
  have hcon := AnyQ.slices_SortFunc (P := Tryz.prog) Tryz.sortF 5 Tryz.isAgg25 Tryz.sizeOf25 encC encC_len encC_one (fun x y => BV (fmlC x) (fmlC y)) swo_cmp 59 #[] g 0 cap D.toArray w eg hcmp hH hglt (by simpa [hDl] using hn)
  change Calls Tryz.prog 141 _ _ _ at hcon
  have hsz : D.toArray.size = l.length := by simpa using hDl
  rw [hsz] at hcon
  refine Calls.mono hcon ?_
  rintro e w' ⟨rfl, d', n, os, hp, hs, rfl⟩
  obtain ⟨p1, _, p3⟩ := hp
  have hd' : d'.size = l.length := by rw [p1, hsz]
  obtain ⟨kW, cur', g1, g2, g3⟩ := sortW_at hg (D := d') (by rw [hd']; exact hcap) n os
  have hperm : d'.toList.Perm D := by
   have e1 : d'.extract 0 l.length = d' := by rw [← hd']; simp
   have e2 : D.toArray.extract 0 l.length = D.toArray := by rw [← hsz]; simp
   rw [e1, e2] at p3
   exact p3
  refine ⟨rfl, kW, d'.toList.map encC, d'.toList.map fmlC, by rw [← hD2]; exact hperm.map fmlC, ?_, ⟨?_, .inr ⟨g, cap, cur', rfl, hB, g1, hnc, hcm, g2.trans hcs, ?_⟩⟩, ?_⟩
  ·unfold Srt
   rw [List.pairwise_map, List.pairwise_iff_getElem]
   intro i j hi hj hij
   have hi' : i < d'.size := by simpa using hi
   have hj' : j < d'.size := by simpa using hj
   have h := hs i j (Nat.zero_le _) hij (by omega)
   rw [getElem!_pos d' j hj', getElem!_pos d' i hi'] at h
   simp only [ltOf, decide_eq_false_iff_not] at h
   simpa using h
  ·rw [CT 5 _ (fun c hc => by obtain ⟨x, _, rfl⟩ := List.mem_map.1 hc; exact encC_len x)]; simp [hd']
  ·rw [← hd']; exact g3
  ·exact (cel_fs d'.toList).keep kW hne
end Go.Proofs.YtkhhjdjmhbdjfaaGreatDoor
