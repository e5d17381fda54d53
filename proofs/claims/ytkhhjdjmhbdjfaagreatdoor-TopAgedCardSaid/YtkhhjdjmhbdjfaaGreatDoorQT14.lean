/- typing.Formula, truth.evaluable, rowOf, Holds. The references: formulas compared, built, measured. The references: names, signals. The references: signals found, valid, the number of letters. The references: what a node may be. Conditions: none. -/
import Derived.Test.YtkhhjdjmhbdjfaaGreatDoorQT13

namespace Go.Proofs.YtkhhjdjmhbdjfaaGreatDoor
open Go.RowKit
set_option linter.unusedVariables false
structure KerT (S : List Sgn) (f : Fml) : Prop where
 val : validG f = true
 lay : layG f = true
 pos : posB f = true
 cst : cst f ≤ 60
 dp : dpF f + 1 ≤ 20
 sz : szF f ≤ 1000
 ok : okT (knS S) f = true
theorem typing_ok (w : World) (sa : Option Addr) (sc : Nat) (S : List Sgn) (v : Value) (f : Fml) (hS : SlAt sgnR As w (.slice sa S.length sc) S) (hv : BG S = true) (hf : FAt As w v f) (hk : KerT S f) (hG : GF w) (hK : KY w) (hN : 3 ≤ w.heap.size) :
  Fn Tryz.prog 119 [.slice sa S.length sc, v] w fun u w' => u = .int .i64 0 ∧ Ext w w' := by
 have hfl := hf.lt
 obtain ⟨c, rfl, hc5, hone⟩ := hf.cells
 obtain ⟨x0, x1, x2, x3, x4, rfl⟩ := A7 hc5
 have hSl := hS.lt (show (0 : Nat) < 3 by omega)
 refine CK Tryz.func119 rfl Tryz.ntmps119 (Nat.le_of_ble_eq_true rfl) (by kernel_rfl) ?_
 repeat refine nx rfl ?_
 (refine AA ?_; refine A5 (L := [.slice sa S.length sc]) rfl (fun w1 n1 => ?_))
 refine A5 (L := [x0, x1, x2, x3, x4]) rfl (fun w2 n2 => ?_)
 refine Ar (fun w3 n3 => ?_)
 repeat refine nx rfl ?_
 have z1 := n1.size
 have z2 := n2.size
 have z3 := n3.size
 have k23 := n2.keep.trans n3.keep
 have k3 : Ext w w3 := n1.keep.trans k23
 have bs := n1.blk.keep k23 (by simp)
 have bf := n2.blk.keep n3.keep (by simp)
 have be : Blk w3 w2.heap.size 78 [.int .i64 0] := n3.blk
 refine AA (AF rfl (Blk.cell (by assumption) (by rfl)) ?_)
 refine AQ (sigValid_ok w3 _ S (hS.ext k3) (hK.keep k3 (by simp))) rfl ?_
 rintro _ w4 ⟨rfl, k4⟩
 rw [hv]
 refine Ak rfl ?_
 repeat first | refine nx rfl ?_ | refine nf rfl ?_
 have e4 := k3.trans k4
 have bf4 := bf.keep k4 (by simp)
 refine AA ?_
 refine Ac rfl bf4 rfl ?_
 refine AQ (fvalid_ok w4 _ f (hf.ext e4) (hG.ext e4) (hK.keep e4 (by simp)) (Nat.le_trans hN e4.size)) rfl ?_
 rintro _ w5 ⟨rfl, k5⟩
 rw [hk.val]
 refine Ak rfl ?_
 repeat first | refine nx rfl ?_ | refine nf rfl ?_
 have e5 := e4.trans k5
 have k35 := k4.trans k5
 have bs5 := bs.keep k35 (by simp)
 have bf5 := bf.keep k35 (by simp)
 have be5 := be.keep k35 (by simp)
 refine AA ?_
 refine AQ (tnodes_ok w5 w1.heap.size 0) rfl ?_
 rintro _ w6 ⟨rfl, n6⟩
 repeat refine nx rfl ?_
 have z6 := n6.size
 have z5 := k35.size
 have b6 := n6.blk
 have e6 := e5.trans n6.keep
 replace bs5 := bs5.keep n6.keep (by simp)
 replace bf5 := bf5.keep n6.keep (by simp)
 replace be5 := be5.keep n6.keep (by simp)
 refine C_range [] [pt w5.heap.size] rfl (by kernel_rfl) fun Rdy Bsy Don w7 HL k7 s7 m7 r7 => ?_
 replace b6 := b6.keep k7 (by simp)
 replace bs5 := bs5.keep k7 (by simp)
 replace bf5 := bf5.keep k7 (by simp)
 replace be5 := be5.keep k7 (by simp)
 have e7 := e6.trans k7
 have hp7 : PF (fun b => b ∉ [w6.heap.size + 1] ∧ b < w7.heap.size) w7 w1.heap.size 0 f := ⟨by simp; omega, _, rfl, bf5.cells, (hfl.ext e7).mono fun b hb => by have := hb.2; simp; omega⟩
 obtain ⟨J, hJ⟩ : ∃ J : World → Prop, ∀ W, J W ↔ (Ext w W ∧ Blk W w.heap.size 22 [.slice sa S.length sc] ∧ Blk W w1.heap.size 25 [x0, x1, x2, x3, x4] ∧ Blk W w2.heap.size 78 [.int .i64 0] ∧ Rdy W ∧ W.heap[w6.heap.size]? = some (.deferred (some [])) ∧ w7.heap.size ≤ W.heap.size) := ⟨_, fun _ => Iff.rfl⟩
 have H : TnR (.func (.yield (w6.heap.size + 1)) #[] #[]) [w6.heap.size + 1] w7.heap.size (knS S) J := by
  refine ⟨⟨_, rfl⟩, fun hj k => ?_, fun {W b o x} hj hp hok => ?_⟩
  ·obtain ⟨j1, j2, j3, j4, j5, j6, j7⟩ := (hJ _).1 hj
   exact (hJ _).2 ⟨j1.trans k, j2.keep k (by simp), j3.keep k (by simp), j4.keep k (by simp), HL.rdy j5 k (by simp), (k.block _ (by omega) (by simp)).trans j6, Nat.le_trans j7 k.size⟩
  ·obtain ⟨j1, j2, j3, j4, j5, j6, j7⟩ := (hJ _).1 hj
   refine YldP.mono (R := fun v W' => v = .bool true ∧ Keep [w6.heap.size + 1] W W' ∧ J W') (Y := fun _ _ => False) (HL.round j5 rfl ?_) (fun v W' h => h) (fun _ _ h => h)
   repeat refine nx rfl ?_
   refine AA (AC (AP rfl ?_))
   repeat refine nx rfl ?_
   refine ⟨j5, fun W2 q2 y2s y2 => ?_⟩
   have e2 := j1.keep q2 (by simp; omega)
   replace j2 := j2.keep q2 (by simp; omega)
   replace j3 := j3.keep q2 (by simp; omega)
   replace j4 := j4.keep q2 (by simp; omega)
   replace j6 := (q2.block _ (by omega) (by simp)).trans j6
   have hp2 := (hp.keep q2 (fun _ h => h.1)).mono (ok' := As) (fun _ _ => trivial)
   repeat refine nx rfl ?_
   (refine AA (AF rfl (Blk.cell (by assumption) (by rfl)) ?_) <;> refine AP rfl ?_)
   refine AQ (nodeErr_ok W2 sa sc S b o x (hS.ext e2) hp2 hok) rfl ?_
   rintro _ W3 ⟨rfl, k3'⟩
   refine AC (AG rfl ?_)
   repeat refine nx rfl ?_
   refine AA (AG rfl (W_neqF rfl rfl (by omega) ?_))
   repeat first | refine nx rfl ?_ | refine nf rfl ?_
   have q3 := q2.trans k3' (fun x h => by cases h)
   have zq := q3.size
   refine Q_rnd (HL.bsy y2 k3' (by simp)) fun W4 q4 s4 y4 => ⟨rfl, q3.trans q4 (fun x h _ => h), (hJ _).2 ⟨(e2.trans k3').keep q4 (by simp; omega), (j2.keep k3' (by simp)).keep q4 (by simp; omega), (j3.keep k3' (by simp)).keep q4 (by simp; omega), (j4.keep k3' (by simp)).keep q4 (by simp; omega), y4, (q4.block _ (by omega) (by simp)).trans ((k3'.block _ (by omega) (by simp)).trans j6), by omega⟩⟩
 refine Fn.mono (tnodesIt_ok w7 w5.heap.size w1.heap.size 0 f H b6 hp7 hk.ok ((hJ _).2 ⟨e7, bs5, bf5, be5, r7, m7, Nat.le_refl _⟩) (fun x hx => by simp at hx; omega)) ?_
 rintro v w8 ⟨_, hj⟩
 obtain ⟨j1, j2, j3, j4, j5, j6, j7⟩ := (hJ _).1 hj
 refine .inl ⟨j5, fun w9 k9 s9 => ?_⟩
 clear hJ H hj HL r7 m7 b6 bs5 bf5 be5
 replace j3 := j3.keep k9 (by simp; omega)
 replace j4 := j4.keep k9 (by simp; omega)
 replace j6 := (k9.block _ (by omega) (by simp)).trans j6
 have e9 := j1.keep k9 (by simp; omega)
 repeat refine nx rfl ?_
 refine AA ?_
 refine Ac rfl j3 rfl ?_
 refine AQ (kernel_ok w9 _ f (hf.ext e9) (hG.ext e9) (hK.keep e9 (by simp)) (Nat.le_trans hN e9.size) hk.val hk.lay hk.pos hk.cst hk.dp hk.sz) rfl ?_
 rintro u w10 ⟨cu, rfl, k10, fu⟩
 obtain ⟨cs, ecs, hcs, hone'⟩ := fu.cells
 have ec : cu = cs := by simpa using ecs
 subst ec
 obtain ⟨y0, y1, y2, y3, y4, rfl⟩ := A7 hcs
 refine Cj rfl (BA rfl rfl (BA rfl rfl ?_))
 refine Cv (cs := [y0, y1, y2, y3, y4]) rfl rfl (by rfl) hone' (fun w11 n11 => ?_)
 refine AC (AG rfl ?_)
 repeat refine nx rfl ?_
 refine AA (AG rfl (W_neqF rfl rfl (by omega) ?_))
 repeat first | refine nx rfl ?_ | refine nf rfl ?_
 have k911 := k10.trans n11.keep
 have zz := k911.size
 have b4 := j4.keep k911 (by simp)
 refine AA ?_
 refine Aa (v := .int .i64 0) rfl rfl rfl b4 (by simp) (fun w12 p12 => ?_)
 repeat refine nx rfl ?_
 have kk : Keep [w2.heap.size] w9 w12 := k911.any.trans p12.keep (fun x h _ => h)
 refine Bl ((kk.block _ (by omega) (by simp; omega)).trans j6) fun w13 k13 s13 => ?_
 exact BU (CL rfl ((p12.blk.keep k13 (by simp; omega)).cell (o := 0) rfl) ⟨rfl, (e9.keep kk (by simp; omega)).keep k13 (by simp; omega)⟩)
theorem eval_ok (w : World) (sa : Option Addr) (sc : Nat) (S : List Sgn) (b o : Nat) (f : Fml) (hS : SlAt sgnR As w (.slice sa S.length sc) S) (hv : BG S = true) (hf : PF As w b o f) (hk : KerT S f) (hG : GF w) (hK : KY w) (hN : 3 ≤ w.heap.size) :
  Fn Tryz.prog 91 [.slice sa S.length sc, .pointer (some ⟨b, o, none⟩)] w fun u w' => u = .bool true ∧ Ext w w' := by
 refine AR Tryz.func91 rfl Tryz.ntmps91 (Nat.le_of_ble_eq_true rfl) (by kernel_rfl) ?_
 repeat refine nx rfl ?_
 refine AA (AC (AB rfl ?_))
 repeat refine nx rfl ?_
 refine AA (AM rfl ?_)
 refine AQ (sigValid_ok w _ S hS hK) rfl ?_
 rintro _ w1 ⟨rfl, k1⟩
 rw [hv]
 refine Ak rfl ?_
 repeat first | refine nx rfl ?_ | refine nf rfl ?_
 obtain ⟨_, cs, hcs, hc, hf0⟩ := hf.keep k1 (fun _ _ => by simp)
 refine AA (AM rfl (AP rfl (AH rfl ?_)))
 refine Ao rfl hcs hc ?_
 refine AQ (typing_ok w1 sa sc S _ f (hS.ext k1) hv hf0 hk (hG.ext k1) (hK.keep k1 (by simp)) (Nat.le_trans hN k1.size)) rfl ?_
 rintro _ w2 ⟨rfl, k2⟩
 refine Ai rfl rfl (by omega) ?_
 repeat refine nx rfl ?_
 refine AA (AC (AB rfl ?_))
 repeat refine nx rfl ?_
 exact AI rfl ⟨rfl, k1.trans k2⟩
theorem rowOf_ok (w : World) (sa : Option Addr) (sc : Nat) (S : List Sgn) (b o : Nat) (f : Fml) (c : List Value) (p q : Int) (hS : SlAt sgnR As w (.slice sa S.length sc) S) (hv : BG S = true) (hf : PF As w b o f) (hk : KerT S f) (hl : Las w c p q) (hp : 0 ≤ p ∧ p < Bm S) (hq : 0 ≤ q ∧ q < Bm S) (hG : GF w) (hK : KY w) (hN : 3 ≤ w.heap.size) :
  Fn Tryz.prog 47 [.slice sa S.length sc, .pointer (some ⟨b, o, none⟩), .agg c.toArray] w fun u w' => ∃ t v, u = .tuple #[pt t, v, .bool true] ∧ Ext w w' ∧ Axs w' t S [p, q] ∧ Tru2 w' v (rowM S [p, q] f) := by
 obtain ⟨hn1, hn2⟩ := num_valid hv
 have hl0 := hl
 obtain ⟨pb, po, pc, qb, qo, qc, rfl, h1, h2⟩ := hl
 refine AR Tryz.func47 rfl Tryz.ntmps47 (Nat.le_of_ble_eq_true rfl) (by kernel_rfl) ?_
 repeat refine nx rfl ?_
 (refine AA ?_; refine A5 (L := [.slice (some ⟨pb, po, none⟩) 1 pc, .slice (some ⟨qb, qo, none⟩) 1 qc]) rfl (fun w1 n1 => ?_))
 refine AC (AP rfl (AC (AM rfl (AC (AB rfl ?_)))))
 repeat refine nx rfl ?_
 have b1 := n1.blk
 have k1 := n1.keep
 refine Ad (.read 0 (.read 1 (.alt 2 (.read 3 (.read 4 (.read 5 (.read 7 (.alt 6 (.alt 8 (.read 9 (.read 10 .done)) .stop) .stop))))) .stop))) Ax (by kernel_rfl) (fun wd kd ed => ⟨Ext wd, ?_, ?_⟩)
 ·exact Ext.refl _
 have e1 := k1.trans kd
 refine D_R rfl rfl (fun W hW => AM rfl Z3) (D_R rfl rfl (fun W hW => AP rfl Z3) ?_)
 refine D_E rfl ?_
 refine AQ (eval_ok wd sa sc S b o f (hS.ext e1) hv (hf.keep e1 (fun _ _ => by simp)) hk (hG.ext e1) (hK.keep e1 (by simp)) (Nat.le_trans hN e1.size)) rfl ?_
 rintro _ w2 ⟨rfl, k2⟩
 have e2 := e1.trans k2
 refine AO ⟨Ext wd, fun _ e => e, k2, ?_⟩
 refine D_R rfl rfl (fun W hW => Ak rfl Z3) (D_R rfl rfl (fun W hW => AB rfl Z3) (D_R rfl rfl (fun W hW => AE rfl (AM rfl Z3)) ?_))
 refine D_R (v := .agg [.slice (some ⟨pb, po, none⟩) 1 pc, .slice (some ⟨qb, qo, none⟩) 1 qc].toArray) rfl rfl (fun V hV => by refine AE rfl (Ac rfl (b1.keep (kd.trans hV) (by simp)) rfl ?_); exact AO ⟨rfl, rfl, rfl⟩) ?_
 refine D_E rfl ?_
 refine AE rfl (AQ (letters_ok w2 _ S (hS.ext e2) (hK.keep e2 (by simp)) (Nat.le_trans hN e2.size)) rfl ?_)
 rintro _ w3 ⟨rfl, k3⟩
 have e3 := e2.trans k3
 refine AO ⟨Ext wd, fun _ e => e, k2.trans k3, ?_⟩
 refine D_E rfl ?_
 refine AE rfl (AQ (wValid_ok w3 _ p q (Bm S) (hl0.ext e3) (by omega) hp hq) rfl ?_)
 rintro _ w4 ⟨rfl, k4⟩
 have e4 := e3.trans k4
 refine AO ⟨Ext wd, fun _ e => e, (k2.trans k3).trans k4, ?_⟩
 refine D_R rfl rfl (fun W hW => AE rfl (Ak rfl Z3)) (D_R rfl rfl (fun W hW => AJ rfl (AB rfl Z3)) (Ah ?_))
 repeat first | refine nx rfl ?_ | refine nf rfl ?_
 have b4 := b1.keep (((kd.trans k2).trans k3).trans k4) (by simp)
 refine AA (AM rfl (AP rfl ?_))
 refine Ac rfl b4 rfl ?_
 refine AQ (axisOf_ok w4 sa sc S b o f _ p q (hS.ext e4) hv (hf.keep e4 (fun _ _ => by simp)) hk.ok (hl0.ext e4) hp hq (hK.keep e4 (by simp)) (Nat.le_trans hN e4.size)) rfl ?_
 rintro _ w5 ⟨t, rfl, k5, hA⟩
 have e5 := e4.trans k5
 refine AC (AP rfl ?_)
 repeat refine nx rfl ?_
 refine AA (AP rfl (AP rfl (AP rfl ?_)))
 refine AQ (row_ok w5 t S [p, q] b o f hA rfl hk.sz (hf.keep e5 (fun _ _ => by simp)) hk.ok) rfl ?_
 rintro u w6 ⟨hu, k6⟩
 have hA6 := hA.ext k6
 obtain ⟨g, rfl, bg⟩ := hu
 refine AC (AP rfl (AC (AM rfl (AC (AB rfl ?_)))))
 repeat refine nx rfl ?_
 exact Bc rfl ⟨_, _, rfl, e5.trans k6, hA6, g, rfl, bg⟩
theorem holds_ok (w : World) (sa : Option Addr) (sc : Nat) (S : List Sgn) (v : Value) (f : Fml) (c : List Value) (p q : Int) (hS : SlAt sgnR As w (.slice sa S.length sc) S) (hv : BG S = true) (hf : FAt As w v f) (hk : KerT S f) (hl : Las w c p q) (hp : 0 ≤ p ∧ p < Bm S) (hq : 0 ≤ q ∧ q < Bm S) (hG : GF w) (hK : KY w) (hN : 3 ≤ w.heap.size) :
  Fn Tryz.prog 18 [.slice sa S.length sc, v, .agg c.toArray, .int .i64 0] w fun u w' => u = .bool (rowM S [p, q] f).1 ∧ Ext w w' := by
 obtain ⟨cf, rfl, hc5, hone⟩ := hf.cells
 obtain ⟨x0, x1, x2, x3, x4, rfl⟩ := A7 hc5
 have hl0 := hl
 obtain ⟨pb, po, pc, qb, qo, qc, rfl, h1, h2⟩ := hl
 refine AR Tryz.func18 rfl Tryz.ntmps18 (Nat.le_of_ble_eq_true rfl) (by kernel_rfl) ?_
 repeat refine nx rfl ?_
 (refine AA ?_; refine A5 (L := [x0, x1, x2, x3, x4]) rfl (fun w1 n1 => ?_))
 refine A5 (L := [.slice (some ⟨pb, po, none⟩) 1 pc, .slice (some ⟨qb, qo, none⟩) 1 qc]) rfl (fun w2 n2 => ?_)
 refine AC (AB rfl ?_)
 repeat refine nx rfl ?_
 have k2 := n1.keep.trans n2.keep
 have b1 := n1.blk.keep n2.keep (by simp)
 have b2 := n2.blk
 refine AA (AG rfl (Aj rfl rfl (by omega) ?_))
 repeat first | refine nx rfl ?_ | refine nf rfl ?_
 refine AA (AM rfl ?_)
 refine Ac rfl b2 rfl ?_
 refine AQ (rowOf_ok w2 sa sc S w.heap.size 0 f _ p q (hS.ext k2) hv ⟨trivial, _, rfl, b1.cells, hf.ext k2⟩ hk (hl0.ext k2) hp hq (hG.ext k2) (hK.keep k2 (by simp)) (Nat.le_trans hN k2.size)) rfl ?_
 rintro _ w3 ⟨t, u, rfl, k3, hA, hu⟩
 obtain ⟨g, rfl, bg⟩ := hu
 have c0 : ∀ W, Ext w3 W → W.cell? ⟨g, 0 + 0, none⟩ = some (.bool (rowM S [p, q] f).1) := fun W e => (bg.keep e (by simp)).cell rfl
 refine Cj rfl (BA rfl rfl (BA rfl rfl (BA rfl rfl (AC (AP rfl (AC (AM rfl (AC (AB rfl ?_)))))))))
 repeat refine nx rfl ?_
 refine AA (AB rfl (AB rfl (AE rfl (AM rfl (AE rfl (AP rfl (AE rfl (AG rfl ?_))))))))
 refine AE rfl (AQ (place_ok w3 t S [p, q] 0 hA (by omega)) rfl ?_)
 rintro _ w4 ⟨rfl, k4⟩
 have c1 := c0 w4 k4
 simp only [if_pos (show 0 < 2 by omega)]
 (refine AE rfl (BL rfl rfl rfl (by omega) (AE rfl (AF rfl (by assumption) ?_))) <;> refine AK rfl (AB rfl (AC (AB rfl ?_))))
 repeat refine nx rfl ?_
 exact AI rfl ⟨rfl, (k2.trans k3).trans k4⟩
end Go.Proofs.YtkhhjdjmhbdjfaaGreatDoor
namespace Go.Proofs.YtkhhjdjmhbdjfaaGreatDoor
open Go.RowKit
set_option linter.unusedVariables false
theorem fml_eq {f g : Fml} : f = g ↔ f.op = g.op ∧ f.name = g.name ∧ f.val = g.val ∧ f.bound = g.bound ∧ f.args = g.args := by
 obtain ⟨a, b, c, d, e⟩ := f
 obtain ⟨a', b', c', d', e'⟩ := g
 simp [Fml.op, Fml.name, Fml.val, Fml.bound, Fml.args]
theorem ints_ok (a b : Int) (w : World) : Fn Tryz.prog 66 [.int .i64 a, .int .i64 b] w fun v w' => ∃ c : Int, v = .int .i64 c ∧ (c = 0 ↔ a = b) ∧ w' = w := by
 refine AR Tryz.func66 rfl Tryz.ntmps66 (Nat.le_of_ble_eq_true rfl) (by kernel_rfl) ?_
 repeat refine nx rfl ?_
 refine AA (AC (AG rfl ?_))
 repeat refine nx rfl ?_
 by_cases h1 : a < b
 ·refine AA (AG rfl (AG rfl (At rfl rfl (by omega) ?_)))
  repeat refine nx rfl ?_
  refine AA (AC (AG rfl ?_))
  repeat refine nx rfl ?_
  exact AI rfl ⟨-1, rfl, by omega, rfl⟩
 ·refine AA (AG rfl (AG rfl (Aj rfl rfl (by omega) ?_)))
  repeat first | refine nx rfl ?_ | refine nf rfl ?_
  by_cases h2 : b < a
  ·refine AA (AG rfl (AG rfl (Co rfl rfl (by omega) ?_)))
   repeat refine nx rfl ?_
   refine AA (AC (AG rfl ?_))
   repeat refine nx rfl ?_
   exact AI rfl ⟨1, rfl, by omega, rfl⟩
  ·refine AA (AG rfl (AG rfl (B9 rfl rfl (by omega) ?_)))
   repeat first | refine nx rfl ?_ | refine nf rfl ?_
   refine AA (AC (AG rfl ?_))
   repeat refine nx rfl ?_
   exact AI rfl ⟨0, rfl, by omega, rfl⟩
theorem W_slss {P : Program} {all : Array Oper} {Z : Fr → DS → List PanicEntry → World → Prop} {K : Fr → DS → World → Prop} {rest : List Oper} {f : Fr} {ds : DS} {w : World} {d : Nat} {ty : TypeId} {pos : String} {af : Array Edge} {xt yt : TypeId} {x y : Operand} {s t : List UInt8}
  (hx : ev f x = An s) (hy : ev f y = An t) (h : ∀ b : Bool, AX P all Z K rest (upd f d (.bool b)) ds w) : AX P all Z K (⟨some d, .binOp .lss xt x y yt, ty, pos, af, none⟩ :: rest) f ds w :=
 BB (v := .bool (Op.bytesLess s t)) rfl (by simp [execOp, hx, hy, eqGuard, binOp, Op.stringOp]) (h _)
theorem compare_ok : ∀ (n : Nat) (f g : Fml), SizeOf.sizeOf f ≤ n → ∀ (w : World) (v v' : Value), FAt As w v f → FAt As w v' g → Fn Tryz.prog 37 [v, v'] w fun r w' => ∃ c : Int, r = .int .i64 c ∧ (c = 0 ↔ f = g) ∧ Ext w w' := by
 intro n
 induction n with
 | zero => intro f g hn; cases f; simp at hn
 | succ n ih =>
 intro f g hn w v v' hf hg
 obtain ⟨av, rfl, L, hS, hL, h5, hA⟩ := hf.form
 obtain ⟨bv, rfl, M, hS', hL', h5', hA'⟩ := hg.form
 obtain ⟨aa, ac, rfl, _⟩ := id hS
 obtain ⟨ba, bc, rfl, _⟩ := id hS'
 have hla : f.args.length ≤ 9223372036854775807 := by obtain ⟨_, _, hv, g1, g2, _⟩ := id hS; cases hv; omega
 have hsz : ∀ x ∈ f.args, SizeOf.sizeOf x ≤ n := by
  intro x hx
  cases f with
  | mk o nm vl bd args =>
   have := List.sizeOf_lt_of_mem hx
   simp [Fml.args] at this hn
   omega
 refine AR Tryz.func37 rfl Tryz.ntmps37 (Nat.le_of_ble_eq_true rfl) (by kernel_rfl) ?_
 repeat refine nx rfl ?_
 (refine AA ?_; refine A5 (L := [.int .i64 f.op, An f.name, .int .i64 f.val, .int .i64 f.bound, .slice aa f.args.length ac]) rfl (fun w1 n1 => ?_))
 refine A5 (L := [.int .i64 g.op, An g.name, .int .i64 g.val, .int .i64 g.bound, .slice ba g.args.length bc]) rfl (fun w2 n2 => ?_)
 have a2 : Blk w2 w.heap.size 25 [.int .i64 f.op, An f.name, .int .i64 f.val, .int .i64 f.bound, .slice aa f.args.length ac] := n1.blk.keep n2.keep (by simp)
 have b2 := n2.blk
 have k2 : Ext w w2 := n1.keep.trans n2.keep
 refine AC (AG rfl ?_)
 repeat refine nx rfl ?_
 (refine AA (AD rfl (AF rfl (Blk.cell (by assumption) (by rfl)) ?_)) <;> refine AD rfl (AF rfl (Blk.cell (by assumption) (by rfl)) ?_))
 refine AQ (ints_ok _ _ _) rfl ?_
 rintro _ w3 ⟨c0, rfl, h0, rfl⟩
 refine AC (AG rfl (AO ?_))
 refine Q_then ?_
 refine C_seq ?_
 refine Cn (α := Int) (fun c => [(2, pt w.heap.size), (3, pt w1.heap.size), (4, .int .i64 0), (5, .int .i64 c)]) (fun c W => Blk W w.heap.size 25 [.int .i64 f.op, An f.name, .int .i64 f.val, .int .i64 f.bound, .slice aa f.args.length ac] ∧ Blk W w1.heap.size 25 [.int .i64 g.op, An g.name, .int .i64 g.val, .int .i64 g.bound, .slice ba g.args.length bc] ∧ Ext w W ∧ (c = 0 ↔ f.op = g.op ∧ f.name = g.name)) ?_ ?_
 ·repeat refine nx rfl ?_
  by_cases hc0 : c0 = 0
  ·by_cases hnm : f.name = g.name
   ·(refine AA (AG rfl (Ai rfl rfl (by omega) (AB rfl (AE rfl (AD rfl (AE rfl (AF rfl (Blk.cell (by assumption) (by rfl)) ?_))))))) <;> refine AE rfl (AD rfl (AE rfl (AF rfl (Blk.cell (by assumption) (by rfl)) ?_))) <;> (refine AE rfl ?_; refine W_sneq rfl rfl (fun hc => ?_) (fun hc => ?_)) <;> refine AK rfl (AB rfl (AO ?_)))
    ·exact absurd hnm (by assumption)
    repeat first | refine nx rfl ?_ | refine nf rfl ?_
    exact A0 c0 ⟨rfl, rfl, rfl, rfl, trivial⟩ ⟨a2, b2, k2, by simp_all⟩
   ·(refine AA (AG rfl (Ai rfl rfl (by omega) (AB rfl (AE rfl (AD rfl (AE rfl (AF rfl (Blk.cell (by assumption) (by rfl)) ?_))))))) <;> refine AE rfl (AD rfl (AE rfl (AF rfl (Blk.cell (by assumption) (by rfl)) ?_))) <;> (refine AE rfl ?_; refine W_sneq rfl rfl (fun hc => ?_) (fun hc => ?_)) <;> refine AK rfl (AB rfl (AO ?_)))
    rotate_left
    ·exact absurd (by assumption) hnm
    repeat refine nx rfl ?_
    refine AA (AC (AG rfl ?_))
    repeat refine nx rfl ?_
    (refine AA (AD rfl (AF rfl (Blk.cell (by assumption) (by rfl)) ?_)) <;> refine AD rfl (AF rfl (Blk.cell (by assumption) (by rfl)) ?_))
    refine W_slss rfl rfl (fun b => ?_)
    refine AO ?_
    cases b with
    | true =>
     repeat refine nx rfl ?_
     refine AA (AC (AG rfl ?_))
     repeat refine nx rfl ?_
     exact A0 (-1) ⟨rfl, rfl, rfl, rfl, trivial⟩ ⟨a2, b2, k2, by simp_all⟩
    | false =>
     repeat first | refine nx rfl ?_ | refine nf rfl ?_
     exact A0 1 ⟨rfl, rfl, rfl, rfl, trivial⟩ ⟨a2, b2, k2, by simp_all⟩
  ·refine AA (AG rfl (AT rfl rfl (by omega) (AB rfl (AL rfl (AL rfl (AL rfl (AL rfl (AL rfl (AJ rfl (AB rfl ?_))))))))))
   repeat first | refine nx rfl ?_ | refine nf rfl ?_
   exact A0 c0 ⟨rfl, rfl, rfl, rfl, trivial⟩ ⟨a2, b2, k2, by simp_all⟩
 clear a2 b2 k2
 rintro c w3 f3 ⟨a2, b2, k2, hp⟩
 refine C_seq ?_
 refine Cn (α := Int) (fun c => [(2, pt w.heap.size), (3, pt w1.heap.size), (4, .int .i64 0), (5, .int .i64 c)]) (fun c W => Blk W w.heap.size 25 [.int .i64 f.op, An f.name, .int .i64 f.val, .int .i64 f.bound, .slice aa f.args.length ac] ∧ Blk W w1.heap.size 25 [.int .i64 g.op, An g.name, .int .i64 g.val, .int .i64 g.bound, .slice ba g.args.length bc] ∧ Ext w W ∧ (c = 0 ↔ f.op = g.op ∧ f.name = g.name ∧ f.val = g.val)) ?_ ?_
 ·repeat refine nx rfl ?_
  by_cases hc0 : c = 0
  ·refine AA (AG rfl (Ai rfl rfl (by omega) ?_))
   repeat refine nx rfl ?_
   (refine AA (AD rfl (AF rfl (Blk.cell (by assumption) (by rfl)) ?_)) <;> refine AD rfl (AF rfl (Blk.cell (by assumption) (by rfl)) ?_))
   refine AQ (ints_ok _ _ _) rfl ?_
   rintro _ w5 ⟨c5, rfl, h5c, rfl⟩
   refine AC (AG rfl ?_)
   repeat refine nx rfl ?_
   exact A0 c5 ⟨rfl, rfl, rfl, rfl, trivial⟩ ⟨a2, b2, k2, by have := hp.1 hc0; constructor <;> intro h <;> simp_all <;> omega⟩
  ·refine AA (AG rfl (AT rfl rfl (by omega) ?_))
   repeat first | refine nx rfl ?_ | refine nf rfl ?_
   exact A0 c ⟨rfl, rfl, rfl, rfl, trivial⟩ ⟨a2, b2, k2, by constructor <;> intro h <;> simp_all⟩
 clear a2 b2 k2 hp
 rintro c w3 f3 ⟨a2, b2, k2, hp⟩
 refine C_seq ?_
 refine Cn (α := Int) (fun c => [(2, pt w.heap.size), (3, pt w1.heap.size), (4, .int .i64 0), (5, .int .i64 c)]) (fun c W => Blk W w.heap.size 25 [.int .i64 f.op, An f.name, .int .i64 f.val, .int .i64 f.bound, .slice aa f.args.length ac] ∧ Blk W w1.heap.size 25 [.int .i64 g.op, An g.name, .int .i64 g.val, .int .i64 g.bound, .slice ba g.args.length bc] ∧ Ext w W ∧ (c = 0 ↔ f.op = g.op ∧ f.name = g.name ∧ f.val = g.val ∧ f.bound = g.bound)) ?_ ?_
 ·repeat refine nx rfl ?_
  by_cases hc0 : c = 0
  ·refine AA (AG rfl (Ai rfl rfl (by omega) ?_))
   repeat refine nx rfl ?_
   (refine AA (AD rfl (AF rfl (Blk.cell (by assumption) (by rfl)) ?_)) <;> refine AD rfl (AF rfl (Blk.cell (by assumption) (by rfl)) ?_))
   refine AQ (ints_ok _ _ _) rfl ?_
   rintro _ w5 ⟨c5, rfl, h5c, rfl⟩
   refine AC (AG rfl ?_)
   repeat refine nx rfl ?_
   exact A0 c5 ⟨rfl, rfl, rfl, rfl, trivial⟩ ⟨a2, b2, k2, by have := hp.1 hc0; constructor <;> intro h <;> simp_all <;> omega⟩
  ·refine AA (AG rfl (AT rfl rfl (by omega) ?_))
   repeat first | refine nx rfl ?_ | refine nf rfl ?_
   exact A0 c ⟨rfl, rfl, rfl, rfl, trivial⟩ ⟨a2, b2, k2, by constructor <;> intro h <;> simp_all⟩
 clear a2 b2 k2 hp
 rintro c w3 f3 ⟨a2, b2, k2, hp⟩
 refine C_seq ?_
 refine Cn (α := Int) (fun c => [(2, pt w.heap.size), (3, pt w1.heap.size), (4, .int .i64 0), (5, .int .i64 c)]) (fun c W => Blk W w.heap.size 25 [.int .i64 f.op, An f.name, .int .i64 f.val, .int .i64 f.bound, .slice aa f.args.length ac] ∧ Blk W w1.heap.size 25 [.int .i64 g.op, An g.name, .int .i64 g.val, .int .i64 g.bound, .slice ba g.args.length bc] ∧ Ext w W ∧ (c = 0 ↔ f.op = g.op ∧ f.name = g.name ∧ f.val = g.val ∧ f.bound = g.bound ∧ f.args.length = g.args.length)) ?_ ?_
 ·repeat refine nx rfl ?_
  by_cases hc0 : c = 0
  ·refine AA (AG rfl (Ai rfl rfl (by omega) ?_))
   repeat refine nx rfl ?_
   (refine AA (AD rfl (AF rfl (Blk.cell (by assumption) (by rfl)) ?_)) <;> refine AZ rfl (AD rfl (AF rfl (Blk.cell (by assumption) (by rfl)) ?_)) <;> refine AZ rfl ?_)
   refine AQ (ints_ok _ _ _) rfl ?_
   rintro _ w5 ⟨c5, rfl, h5c, rfl⟩
   refine AC (AG rfl ?_)
   repeat refine nx rfl ?_
   exact A0 c5 ⟨rfl, rfl, rfl, rfl, trivial⟩ ⟨a2, b2, k2, by have := hp.1 hc0; constructor <;> intro h <;> simp_all <;> omega⟩
  ·refine AA (AG rfl (AT rfl rfl (by omega) ?_))
   repeat first | refine nx rfl ?_ | refine nf rfl ?_
   exact A0 c ⟨rfl, rfl, rfl, rfl, trivial⟩ ⟨a2, b2, k2, by constructor <;> intro h <;> simp_all⟩
 clear a2 b2 k2 hp
 rintro c w3 f3 ⟨a2, b2, k2, hp⟩
 refine C_seq ?_
 refine C_seq ?_
 refine AA (AC (AG rfl ?_))
 repeat refine nx rfl ?_
 refine A3 (α := Nat × Int) (fun x => [(2, pt w.heap.size), (3, pt w1.heap.size), (4, .int .i64 0), (5, .int .i64 x.2), (6, .int .i64 (x.1 : Int))])
  (fun x W => x.1 ≤ f.args.length ∧ Ext w3 W ∧ (x.2 = 0 ↔ (f.op = g.op ∧ f.name = g.name ∧ f.val = g.val ∧ f.bound = g.bound ∧ f.args.length = g.args.length) ∧ ∀ j, j < x.1 → f.args[j]? = g.args[j]?)) (fun x => f.args.length - x.1) (0, c) ⟨rfl, rfl, rfl, rfl, rfl, trivial⟩
  ⟨by simp, Ext.refl _, by simp only; rw [hp]; exact ⟨fun h => ⟨h, fun j hj => by omega⟩, fun h => h.1⟩⟩ ?_
 rintro ⟨i, c'⟩ w4 f4 ⟨hi, k4, hpi⟩
 simp only at hi hpi ⊢
 repeat refine nx rfl ?_
 have hend : ∀ (W : World), Ext w3 W → (c' = 0 → i = f.args.length) → ∃ c0 : Int, Value.int .i64 c' = .int .i64 c0 ∧ (c0 = 0 ↔ f = g) ∧ Ext w W := by
  intro W kW hii
  refine ⟨c', rfl, ?_, k2.trans kW⟩
  rw [fml_eq]
  constructor
  ·intro h
   obtain ⟨⟨h1, h2, h3, h4, h5⟩, h6⟩ := hpi.1 h
   refine ⟨h1, h2, h3, h4, List.ext_getElem? fun j => ?_⟩
   by_cases hj : j < i
   ·exact h6 j hj
   ·have := hii h
    rw [List.getElem?_eq_none (by omega), List.getElem?_eq_none (by omega)]
  ·rintro ⟨h1, h2, h3, h4, h5⟩
   exact hpi.2 ⟨⟨h1, h2, h3, h4, by rw [h5]⟩, fun j _ => by rw [h5]⟩
 have a4 := a2.keep k4 (by simp)
 have b4 := b2.keep k4 (by simp)
 by_cases hlt : i < f.args.length
 ·by_cases hc0 : c' = 0
  ·have hlen : f.args.length = g.args.length := (hpi.1 hc0).1.2.2.2.2
   have kk := k2.trans k4
   obtain ⟨x, hx⟩ : ∃ x, f.args[i]? = some x := ⟨_, List.getElem?_eq_getElem hlt⟩
   obtain ⟨y, hy⟩ : ∃ y, g.args[i]? = some y := ⟨_, List.getElem?_eq_getElem (by omega)⟩
   obtain ⟨cx, hcx⟩ : ∃ cx, L[i]? = some cx := ⟨_, List.getElem?_eq_getElem (by omega)⟩
   obtain ⟨cy, hcy⟩ : ∃ cy, M[i]? = some cy := ⟨_, List.getElem?_eq_getElem (by omega)⟩
   have hfx := (hA i cx x hcx hx).ext kk
   have hfy := (hA' i cy y hcy hy).ext kk
   have hx5 := h5 cx (List.mem_of_getElem? hcx)
   have hy5 := h5' cy (List.mem_of_getElem? hcy)
   obtain ⟨bx, ox, rfl, _, hcellx⟩ := (hS.ext kk).fml h5 hcx hlt
   obtain ⟨by', oy, rfl, _, hcelly⟩ := (hS'.ext kk).fml h5' hcy (by omega)
   obtain ⟨x0, x1, x2, x3, x4, rfl⟩ := A7 hx5
   obtain ⟨y0, y1, y2, y3, y4, rfl⟩ := A7 hy5
   (refine AA (AG rfl (AD rfl (AF rfl (Blk.cell (by assumption) (by rfl)) ?_))) <;> refine AZ rfl (At rfl rfl (by omega) (AB rfl (AE rfl (AG rfl (AE rfl (Ai rfl rfl (by omega) (AK rfl (AB rfl ?_)))))))))
   repeat refine nx rfl ?_
   refine Ad (.read 0 (.read 1 (.read 2 (.read 3 (.read 4 (.read 5 (.read 6 (.read 7 (.read 8 (.read 9 (.alt 10 (.read 11 .done) .stop))))))))))) Ax (by kernel_rfl) (fun wd kd ed => ⟨Ext wd, ?_, ?_⟩)
   ·exact Ext.refl _
   have fa : ∀ W : World, Ext wd W → W.cell? ⟨w.heap.size, 0 + 4, none⟩ = some (.slice (some ⟨bx, ox, none⟩) f.args.length ac) := fun W e => ((a4.keep kd (by simp)).keep e (by simp)).cell rfl
   have fb : ∀ W : World, Ext wd W → W.cell? ⟨w1.heap.size, 0 + 4, none⟩ = some (.slice (some ⟨by', oy, none⟩) g.args.length bc) := fun W e => ((b4.keep kd (by simp)).keep e (by simp)).cell rfl
   have fc : ∀ W : World, Ext wd W → Cells W bx (ox + i * 5) [x0, x1, x2, x3, x4] := fun W e => (hcellx.keep kd (by simp)).keep e (by simp)
   have fd : ∀ W : World, Ext wd W → Cells W by' (oy + i * 5) [y0, y1, y2, y3, y4] := fun W e => (hcelly.keep kd (by simp)).keep e (by simp)
   (refine D_R rfl rfl (fun W hW => AD rfl Z3) (D_R rfl rfl (fun W hW => AF rfl (fa W hW) Z3) (D_R rfl rfl (fun W hW => AG rfl Z3) (D_R rfl rfl (fun W hW => Au rfl rfl rfl (by omega) Z3) ?_))) <;> (apply D_R rfl rfl; (intro W hW; refine Ao rfl (by rfl) (fc W hW) ?_; exact Z3)) <;> refine D_R rfl rfl (fun W hW => AD rfl Z3) (D_R rfl rfl (fun W hW => AF rfl (fb W hW) Z3) (D_R rfl rfl (fun W hW => AG rfl Z3) (D_R rfl rfl (fun W hW => Au rfl rfl rfl (by omega) Z3) ?_))) <;> (apply D_R rfl rfl; (intro W hW; refine Ao rfl (by rfl) (fd W hW) ?_; exact Z3)))
   refine D_E rfl ?_
   refine AQ (ih x y (hsz x (List.mem_of_getElem? hx)) wd _ _ (hfx.ext kd) (hfy.ext kd)) rfl ?_
   rintro _ w6 ⟨c6, rfl, h6, k6⟩
   refine AO ⟨Ext w6, fun W e => k6.trans e, Ext.refl _, ?_⟩
   refine D_R rfl rfl (fun W hW => AC (AG rfl Z3)) (Ah ?_)
   repeat refine nx rfl ?_
   (refine AA (AG rfl (Av rfl rfl (by first | exact AV (by omega) (by omega) | exact AY (by omega) (by omega) | exact AW (by omega) (by omega)) ?_)) <;> refine AC (AG rfl ?_))
   repeat refine nx rfl ?_
   refine ⟨(i + 1, c6), ⟨rfl, ⟨rfl, rfl, rfl, rfl, ?_, trivial⟩, ⟨by simp only; omega, (k4.trans kd).trans k6, ?_⟩⟩, by simp only; omega⟩
   ·show Value.int .i64 ((i : Int) + 1) = _
    rw [Int.natCast_add]; rfl
   ·simp only
    rw [h6]
    obtain ⟨hh, hjj⟩ := hpi.1 hc0
    constructor
    ·rintro rfl
     refine ⟨hh, fun j hj => ?_⟩
     by_cases hji : j = i
     ·subst hji; rw [hx, hy]
     ·exact hjj j (by omega)
    ·rintro ⟨_, hj⟩
     have := hj i (by omega)
     rw [hx, hy] at this
     exact Option.some.inj this
  ·(refine AA (AG rfl (AD rfl (AF rfl (Blk.cell (by assumption) (by rfl)) ?_))) <;> refine AZ rfl (At rfl rfl (by omega) (AB rfl (AE rfl (AG rfl (AE rfl (AT rfl rfl (by omega) (AK rfl (AB rfl ?_)))))))))
   repeat first | refine nx rfl ?_ | refine nf rfl ?_
   refine AA (AG rfl (AC (AG rfl ?_)))
   repeat refine nx rfl ?_
   exact AI rfl (hend w4 k4 (fun h => absurd h hc0))
 ·(refine AA (AG rfl (AD rfl (AF rfl (Blk.cell (by assumption) (by rfl)) ?_))) <;> refine AZ rfl (Aj rfl rfl (by omega) (AB rfl (AL rfl (AL rfl (AJ rfl (AB rfl ?_)))))))
  repeat first | refine nx rfl ?_ | refine nf rfl ?_
  refine AA (AG rfl (AC (AG rfl ?_)))
  repeat refine nx rfl ?_
  exact AI rfl (hend w4 k4 (fun h => by omega))
theorem same_ok (w : World) (v v' : Value) (f g : Fml) (hf : FAt As w v f) (hg : FAt As w v' g) : Fn Tryz.prog 11 [v, v'] w fun r w' => ∃ b : Bool, r = .bool b ∧ (b = true ↔ f = g) ∧ Ext w w' := by
 obtain ⟨cs, rfl, hcs, hone⟩ := hf.cells
 obtain ⟨ds, rfl, hds, hone2⟩ := hg.cells
 obtain ⟨c0, c1, c2, c3, c4, rfl⟩ := A7 hcs
 obtain ⟨d0, d1, d2, d3, d4, rfl⟩ := A7 hds
 refine AR Tryz.func11 rfl Tryz.ntmps11 (Nat.le_of_ble_eq_true rfl) (by kernel_rfl) ?_
 repeat refine nx rfl ?_
 (refine AA ?_; refine A5 (L := [c0, c1, c2, c3, c4]) rfl (fun w1 n1 => ?_))
 refine A5 (L := [d0, d1, d2, d3, d4]) rfl (fun w2 n2 => ?_)
 have a2 := n1.blk.keep n2.keep (by simp)
 have b2 := n2.blk
 have k2 : Ext w w2 := n1.keep.trans n2.keep
 refine AC (AB rfl ?_)
 repeat refine nx rfl ?_
 refine AA (Ac rfl a2 rfl ?_)
 refine Ac rfl b2 rfl ?_
 refine AQ (compare_ok _ f g (Nat.le_refl _) w2 _ _ (hf.ext k2) (hg.ext k2)) rfl ?_
 rintro _ w3 ⟨c, rfl, hcq, k3⟩
 by_cases h0 : c = 0
 ·refine Ai rfl rfl (by omega) (AC (AB rfl ?_))
  repeat refine nx rfl ?_
  exact AI rfl ⟨true, rfl, by simp [hcq.1 h0], k2.trans k3⟩
 ·refine AT rfl rfl (by omega) (AC (AB rfl ?_))
  repeat refine nx rfl ?_
  exact AI rfl ⟨false, rfl, by simp; exact fun e => h0 (hcq.2 e), k2.trans k3⟩
theorem rop_ok (w : World) (op : Int) (ok : Nat → Prop) (a : Option Addr) (c : Nat) (L : List (List Value)) (l : List Fml) (hS : Sl ok w (.slice a l.length c) l.length L.flatten) (hF : FsAt ok w L l) :
  Fn Tryz.prog 36 [.int .i64 op, .slice a l.length c] w fun v w' => Ext w w' ∧ FAt ok w' v ⟨op, [], 0, 0, l⟩ := by
 refine AR Tryz.func36 rfl Tryz.ntmps36 (Nat.le_of_ble_eq_true rfl) (by kernel_rfl) ?_
 repeat refine nx rfl ?_
 refine AA ?_
 refine Ar (fun w1 n1 => ?_)
 have b1 : Blk w1 w.heap.size 25 zero5 := n1.blk
 repeat refine nx rfl ?_
 refine AA (AG rfl (AM rfl (BE (by rfl) (by rfl) ?_)))
 refine AU (cs := [.int .i64 op, An [], .int .i64 0, .int .i64 0, .slice a l.length c]) rfl rfl rfl (Ap rfl) b1 (by simp [zero5]) (fun w2 p2 => ?_)
 have b2 : Blk w2 w.heap.size 25 [.int .i64 op, An [], .int .i64 0, .int .i64 0, .slice a l.length c] := p2.blk
 repeat refine nx rfl ?_
 have k2 : Ext w w2 := n1.keep.keep p2.keep (by simp)
 exact A2 rfl rfl rfl b2.cells ⟨k2, FAt.node op [] 0 0 (hS.ext k2) (hF.ext k2)⟩
theorem refIs_ok (w : World) (s : List UInt8) (n : Int) : Fn Tryz.prog 16 [An s, .int .i64 n] w fun v w' => Ext w w' ∧ FV w' v (isF s n) := by
 refine AR Tryz.func16 rfl Tryz.ntmps16 (Nat.le_of_ble_eq_true rfl) (by kernel_rfl) ?_
 repeat refine nx rfl ?_
 refine AA ?_
 refine Ar (fun w1 n1 => ?_)
 have b1 : Blk w1 w.heap.size 25 zero5 := n1.blk
 repeat refine nx rfl ?_
 refine AA (A1 rfl (AG rfl (BE (by rfl) (by rfl) ?_)))
 refine AU (cs := [.int .i64 3, An s, .int .i64 n, .int .i64 0, .slice none 0 0]) rfl rfl rfl (Ap rfl) b1 (by simp [zero5]) (fun w2 p2 => ?_)
 have b2 : Blk w2 w.heap.size 25 [.int .i64 3, An s, .int .i64 n, .int .i64 0, .slice none 0 0] := p2.blk
 repeat refine nx rfl ?_
 exact A2 rfl rfl rfl b2.cells ⟨n1.keep.keep p2.keep (by simp), FAt.leaf _ _ _ _ _ _⟩
theorem FAt.ret {ok : Nat → Prop} {w w' : World} {v : Value} {f : Fml} {b : Nat} {cs : List Value} (h : FAt (fun x => ok x ∧ x ≠ b) w v f) (e : v = .agg cs.toArray) (k : Keep [b] w w') : FAt ok w' (.agg cs.toArray) f := by
 rw [← e]
 exact (h.keep k (fun x hx => by simpa using hx.2)).mono fun x hx => hx.1
theorem roneX_ok (w : World) (op : Int) (ok : Nat → Prop) (v : Value) (f : Fml) (hf : FAt ok w v f) (hk : ok w.heap.size) (hk2 : ∀ x, w.heap.size ≤ x → ok x) : Fn Tryz.prog 10 [.int .i64 op, v] w fun v w' => Ext w w' ∧ FAt ok w' v ⟨op, [], 0, 0, [f]⟩ := by
 have hflt := hf.lt
 obtain ⟨cs, rfl, hcs, hone⟩ := hf.cells
 obtain ⟨c0, c1, c2, c3, c4, rfl⟩ := A7 hcs
 refine AR Tryz.func10 rfl Tryz.ntmps10 (Nat.le_of_ble_eq_true rfl) (by kernel_rfl) ?_
 repeat refine nx rfl ?_
 (refine AA ?_; refine A5 (L := [c0, c1, c2, c3, c4]) rfl (fun w1 n1 => ?_))
 refine Ar (fun w2 n2 => ?_)
 have a2 := n1.blk.keep n2.keep (by simp)
 have b2 : Blk w2 w1.heap.size 25 zero5 := n2.blk
 have k2 : Ext w w2 := n1.keep.trans n2.keep
 have z1 := n1.size
 have z2 := n2.size
 repeat refine nx rfl ?_
 refine AA (AG rfl ?_)
 refine Ac rfl a2 rfl ?_
 refine Ab (out := [c0, c1, c2, c3, c4]) rfl (by omega) (by rw [CV]; rfl) (fun w3 n3 => ?_)
 have z3 := n3.size
 obtain ⟨S3, F3⟩ := FsAt.fresh (ok := fun x => ok x ∧ x ≠ w1.heap.size) (L := [[c0, c1, c2, c3, c4]]) n3 (FsAt.one ((hflt.ext k2).mono fun x hx => ⟨hx.1, by omega⟩) rfl) ⟨hk2 _ (by omega), by omega⟩ (by simp)
 refine AQ (rop_ok w3 op _ _ _ _ [f] S3 F3) rfl ?_
 rintro v w4 ⟨k4, f4⟩
 have b4 := (b2.keep n3.keep (by simp)).keep k4 (by simp)
 refine W_storeF rfl rfl f4 b4 rfl (fun w5 cs e hcs k5 z5 b5 => ?_)
 repeat refine nx rfl ?_
 exact A2 rfl rfl hcs b5.cells ⟨((k2.trans n3.keep).trans k4).keep k5 (by simp; omega), f4.ret e k5⟩
theorem rone_ok (w : World) (op : Int) (v : Value) (f : Fml) (hf : FV w v f) : Fn Tryz.prog 10 [.int .i64 op, v] w fun v w' => Ext w w' ∧ FV w' v ⟨op, [], 0, 0, [f]⟩ := roneX_ok w op As v f hf trivial fun _ _ => trivial
theorem rtwoX_ok (w : World) (op : Int) (ok : Nat → Prop) (v v' : Value) (f g : Fml) (hf : FAt ok w v f) (hg : FAt ok w v' g) (hk2 : ∀ x, w.heap.size ≤ x → ok x) : Fn Tryz.prog 50 [.int .i64 op, v, v'] w fun v w' => Ext w w' ∧ FAt ok w' v ⟨op, [], 0, 0, [f, g]⟩ := by
 have hflt := hf.lt
 have hglt := hg.lt
 obtain ⟨cs, rfl, hcs, hone⟩ := hf.cells
 obtain ⟨ds, rfl, hds, hone2⟩ := hg.cells
 obtain ⟨c0, c1, c2, c3, c4, rfl⟩ := A7 hcs
 obtain ⟨d0, d1, d2, d3, d4, rfl⟩ := A7 hds
 refine AR Tryz.func50 rfl Tryz.ntmps50 (Nat.le_of_ble_eq_true rfl) (by kernel_rfl) ?_
 repeat refine nx rfl ?_
 (refine AA ?_; refine A5 (L := [c0, c1, c2, c3, c4]) rfl (fun w1 n1 => ?_))
 refine A5 (L := [d0, d1, d2, d3, d4]) rfl (fun w2 n2 => ?_)
 refine Ar (fun w3 n3 => ?_)
 have a3 := (n1.blk.keep n2.keep (by simp)).keep n3.keep (by simp)
 have d3' := n2.blk.keep n3.keep (by simp)
 have b3 : Blk w3 w2.heap.size 25 zero5 := n3.blk
 have k3 : Ext w w3 := (n1.keep.trans n2.keep).trans n3.keep
 have z1 := n1.size
 have z2 := n2.size
 have z3 := n3.size
 repeat refine nx rfl ?_
 refine AA (AG rfl ?_)
 refine Ac rfl a3 rfl ?_
 refine Ac rfl d3' rfl ?_
 refine Ab (out := [c0, c1, c2, c3, c4, d0, d1, d2, d3, d4]) rfl (by omega) (by rw [made10]; rfl) (fun w4 n4 => ?_)
 have z4 := n4.size
 obtain ⟨S4, F4⟩ := FsAt.fresh (ok := fun x => ok x ∧ x ≠ w2.heap.size) (L := [[c0, c1, c2, c3, c4], [d0, d1, d2, d3, d4]]) n4 (FsAt.two ((hflt.ext k3).mono fun x hx => ⟨hx.1, by omega⟩) rfl ((hglt.ext k3).mono fun x hx => ⟨hx.1, by omega⟩) rfl) ⟨hk2 _ (by omega), by omega⟩ (by simp)
 refine AQ (rop_ok w4 op _ _ _ _ [f, g] S4 F4) rfl ?_
 rintro v w5 ⟨k5, f5⟩
 have b5 := (b3.keep n4.keep (by simp)).keep k5 (by simp)
 refine W_storeF rfl rfl f5 b5 rfl (fun w6 cs e hcs k6 z6 b6 => ?_)
 repeat refine nx rfl ?_
 exact A2 rfl rfl hcs b6.cells ⟨((k3.trans n4.keep).trans k5).keep k6 (by simp; omega), f5.ret e k6⟩
theorem rtwo_ok (w : World) (op : Int) (v v' : Value) (f g : Fml) (hf : FV w v f) (hg : FV w v' g) : Fn Tryz.prog 50 [.int .i64 op, v, v'] w fun v w' => Ext w w' ∧ FV w' v ⟨op, [], 0, 0, [f, g]⟩ := rtwoX_ok w op As v v' f g hf hg fun _ _ => trivial
theorem capped_ok : ∀ (N : Nat) (f : Fml), szF f ≤ N → ∀ (w : World) (v : Value) (l : Nat), l ≤ 1000000 → FAt As w v f → Fn Tryz.prog 51 [v, .int .i64 (l : Int)] w fun u w' => u = .int .i64 ((min (szF f) (l + 1) : Nat) : Int) ∧ Ext w w' := by
 intro N
 induction N with
 | zero => intro f hN; have := szF_pos f; omega
 | succ N ih =>
 intro f hN w v l hl hf
 obtain ⟨av, rfl, L, hS, hFA⟩ := hf.form
 obtain ⟨a, c, rfl, hS'⟩ := id hS
 have hcap : f.args.length ≤ 9223372036854775807 := by obtain ⟨h1, h2, _⟩ := hS'; omega
 have hsz := BW f
 refine AR Tryz.func51 rfl Tryz.ntmps51 (Nat.le_of_ble_eq_true rfl) (by kernel_rfl) ?_
 repeat refine nx rfl ?_
 (refine AA ?_; refine A5 (L := fcC f (.slice a f.args.length c)) rfl (fun w1 n1 => ?_))
 have b1 := n1.blk
 have k1 := n1.keep
 have c4 : w1.cell? ⟨w.heap.size, 0 + 4, none⟩ = some (.slice a f.args.length c) := b1.cell rfl
 refine AC (AG rfl ?_)
 repeat refine nx rfl ?_
 refine AA (AC (AG rfl ?_))
 repeat refine nx rfl ?_
 refine AA (AC (AG rfl ?_))
 repeat refine nx rfl ?_
 refine A3 (α := Nat) (fun k => [(1, .int .i64 (l : Int)), (2, pt w.heap.size), (5, .int .i64 ((min (1 + szL (f.args.take k)) (l + 1) : Nat) : Int)), (6, .int .i64 (k : Int))]) (fun k W => k ≤ f.args.length ∧ Ext w1 W) (fun k => f.args.length - k) 0 ⟨rfl, rfl, congrArg (Value.int .i64) (by simp [szL]; try omega), rfl, trivial⟩ ⟨by simp, Ext.refl _⟩ ?_
 rintro k w2 f2 ⟨hk, k2⟩
 have e4 := k2.cell c4 (by simp)
 have kw := k1.trans k2
 have htl : szL (f.args.take k) ≤ szL f.args := by
  have : ∀ l m : List Fml, szL (l ++ m) = szL l + szL m := by
   intro l
   induction l with
   | nil => intro m; simp [szL]
   | cons a l ih2 => intro m; simp only [List.cons_append, szL, ih2 m]; omega
  have h2 := this (f.args.take k) (f.args.drop k)
  rw [List.take_append_drop] at h2
  omega
 repeat refine nx rfl ?_
 generalize hn : min (1 + szL (f.args.take k)) (l + 1) = n
 by_cases hlt : k < f.args.length
 ·by_cases hnl : n ≤ l
  ·(refine AA (AG rfl (AD rfl (AF rfl (by assumption) ?_))) <;> refine AZ rfl (At rfl rfl (by omega) (AB rfl (AE rfl (AG rfl (AE rfl (AG rfl (AE rfl (BZ rfl rfl (by omega) (AK rfl (AB rfl ?_)))))))))))
   repeat refine nx rfl ?_
   obtain ⟨x, hx⟩ : ∃ x, f.args[k]? = some x := ⟨_, List.getElem?_eq_getElem hlt⟩
   obtain ⟨cx, hcx⟩ : ∃ cx, L[k]? = some cx := ⟨_, List.getElem?_eq_getElem (by rw [hFA.1]; exact hlt)⟩
   obtain ⟨ba, oa, rfl, hba, hcellx⟩ := hS.fml hFA.2.1 hcx hlt
   have hxm := BY (List.mem_of_getElem? hx)
   have hfx : FAt As w2 (.agg cx.toArray) x := (hFA.2.2 k cx x hcx hx).ext kw
   have hcx2 := hcellx.keep kw (by simp)
   have htk : szL (f.args.take (k + 1)) = szL (f.args.take k) + szF x := by
    rw [List.take_add_one, hx]
    have : ∀ l : List Fml, szL (l ++ [x]) = szL l + szF x := by
     intro l
     induction l with
     | nil => simp [szL]
     | cons a l ih2 => simp only [List.cons_append, szL, ih2]; omega
    exact this _
   (refine AA (AG rfl (AD rfl (AF rfl (by assumption) ?_))) <;> refine AG rfl ?_)
   refine Au (k := k) rfl rfl rfl (by omega) ?_
   refine Ao (L := cx) rfl (hFA.2.1 cx (List.mem_of_getElem? hcx)) hcx2 ?_
   refine AG rfl (AG rfl (Cy rfl rfl (by first | exact AV (by omega) (by omega) | exact AY (by omega) (by omega) | exact AW (by omega) (by omega)) ?_))
   have esub : (l : Int) - (n : Int) = ((l - n : Nat) : Int) := by omega
   rw [esub]
   refine AQ (ih x (by omega) w2 _ (l - n) (by omega) hfx) rfl ?_
   rintro _ w3 ⟨rfl, k3⟩
   have hmin : min (szF x) (l - n + 1) ≤ l + 1 := by omega
   (refine Av rfl rfl (by first | exact AV (by omega) (by omega) | exact AY (by omega) (by omega) | exact AW (by omega) (by omega)) ?_ <;> refine AC (AG rfl ?_))
   repeat refine nx rfl ?_
   (refine AA (AG rfl (Av rfl rfl (by first | exact AV (by omega) (by omega) | exact AY (by omega) (by omega) | exact AW (by omega) (by omega)) ?_)) <;> refine AC (AG rfl ?_))
   repeat refine nx rfl ?_
   refine ⟨k + 1, ⟨rfl, ⟨rfl, rfl, ?_, ?_, trivial⟩, ⟨hlt, k2.trans k3⟩⟩, by omega⟩
   ·refine congrArg (Value.int .i64) ?_
    rw [htk]
    show (n : Int) + ((min (szF x) (l - n + 1) : Nat) : Int) = _
    omega
   ·show Value.int .i64 ((k : Int) + 1) = _
    rw [Int.natCast_add]; rfl
  ·(refine AA (AG rfl (AD rfl (AF rfl (by assumption) ?_))) <;> refine AZ rfl (At rfl rfl (by omega) (AB rfl (AE rfl (AG rfl (AE rfl (AG rfl (AE rfl (Bh rfl rfl (by omega) (AK rfl (AB rfl ?_)))))))))))
   repeat first | refine nx rfl ?_ | refine nf rfl ?_
   refine AA (AG rfl (AC (AG rfl ?_)))
   repeat refine nx rfl ?_
   refine AI rfl ⟨congrArg (Value.int .i64) ?_, kw⟩
   omega
 ·have e : k = f.args.length := by omega
  subst e
  rw [List.take_length] at hn
  (refine AA (AG rfl (AD rfl (AF rfl (by assumption) ?_))) <;> refine AZ rfl (Aj rfl rfl (by omega) (AB rfl (AL rfl (AL rfl (AL rfl (AJ rfl (AB rfl ?_))))))))
  repeat first | refine nx rfl ?_ | refine nf rfl ?_
  refine AA (AG rfl (AC (AG rfl ?_)))
  repeat refine nx rfl ?_
  refine AI rfl ⟨congrArg (Value.int .i64) ?_, kw⟩
  omega
theorem rsmall_ok (w : World) (v : Value) (f : Fml) (l : Nat) (hl : l ≤ 1000000) (hf : FAt As w v f) : Fn Tryz.prog 21 [v, .int .i64 (l : Int)] w fun u w' => u = .bool (decide (szF f ≤ l)) ∧ Ext w w' := by
 obtain ⟨av, rfl, L, hS, hFA⟩ := hf.form
 refine AR Tryz.func21 rfl Tryz.ntmps21 (Nat.le_of_ble_eq_true rfl) (by kernel_rfl) ?_
 repeat refine nx rfl ?_
 (refine AA ?_; refine A5 (L := fcC f av) rfl (fun w1 n1 => ?_))
 have b1 := n1.blk
 have k1 := n1.keep
 refine AC (AB rfl ?_)
 repeat refine nx rfl ?_
 refine AA (Ac (L := fcC f av) rfl b1 rfl ?_)
 refine AG rfl ?_
 refine AQ (capped_ok _ f (Nat.le_refl _) w1 _ l hl (hf.ext k1)) rfl ?_
 rintro _ w2 ⟨rfl, k2⟩
 by_cases h : szF f ≤ l
 ·refine AG rfl (BZ rfl rfl (by omega) (AC (AB rfl ?_)))
  repeat refine nx rfl ?_
  exact AI rfl ⟨congrArg Value.bool (by simp [h]), k1.trans k2⟩
 ·refine AG rfl (Bh rfl rfl (by omega) (AC (AB rfl ?_)))
  repeat refine nx rfl ?_
  exact AI rfl ⟨congrArg Value.bool (by simp [h]), k1.trans k2⟩
end Go.Proofs.YtkhhjdjmhbdjfaaGreatDoor
namespace Go.Proofs.YtkhhjdjmhbdjfaaGreatDoor
open Go.RowKit
set_option linter.unusedVariables false
theorem in_ok (w : World) (v : Value) (l : List (List UInt8)) (s : List UInt8) (hT : Sl As w v l.length (l.map An)) : Fn Tryz.prog 132 [v, An s] w fun v w' => v = .bool (decide (s ∈ l)) ∧ w' = w := by
 obtain ⟨a, c, rfl, hc1, hc2, _, hcc⟩ := hT
 refine AR Tryz.func132 rfl Tryz.ntmps132 (Nat.le_of_ble_eq_true rfl) (by kernel_rfl) ?_
 repeat refine nx rfl ?_
 refine AA (AC (AB rfl ?_))
 repeat refine nx rfl ?_
 refine AA (AC (AG rfl ?_))
 repeat refine nx rfl ?_
 refine A3 (α := Nat) (fun k => [(0, .slice a l.length c), (1, An s), (5, .int .i64 (k : Int))]) (fun k W => k ≤ l.length ∧ s ∉ l.take k ∧ W = w) (fun k => l.length - k) 0 ⟨rfl, rfl, rfl, trivial⟩ ⟨by omega, by simp, rfl⟩ ?_
 rintro k w2 f2 ⟨hk, hn, rfl⟩
 repeat refine nx rfl ?_
 by_cases hlt : k < l.length
 ·obtain ⟨b, o, rfl, _, hcell⟩ := hcc.resolve_left (by omega)
  obtain ⟨y, hy⟩ : ∃ y, l[k]? = some y := ⟨_, List.getElem?_eq_getElem hlt⟩
  have hyc : w2.cell? ⟨b, o + k, none⟩ = some (An y) := hcell k _ (by simp [hy])
  have ht1 : l.take (k + 1) = l.take k ++ [y] := by rw [List.take_add_one, hy]; rfl
  refine AA (AG rfl (AM rfl (AZ rfl (At rfl rfl (by omega) ?_))))
  repeat refine nx rfl ?_
  by_cases hys : y = s
  ·(refine AA (AM rfl (AG rfl (BL rfl rfl rfl (by omega) (AF rfl (by assumption) ?_)))) <;> refine A1 rfl ?_ <;> refine Bs rfl rfl (fun hc => ?_) (fun hc => ?_) <;> refine AO ?_)
   case refine_2 => exact absurd hys (by assumption)
   repeat refine nx rfl ?_
   refine AA (AC (AB rfl ?_))
   repeat refine nx rfl ?_
   exact AI rfl ⟨by rw [decide_eq_true (List.mem_of_getElem? (hys ▸ hy) : s ∈ l)]; rfl, rfl⟩
  ·(refine AA (AM rfl (AG rfl (BL rfl rfl rfl (by omega) (AF rfl (by assumption) ?_)))) <;> refine A1 rfl ?_ <;> refine Bs rfl rfl (fun hc => ?_) (fun hc => ?_) <;> refine AO ?_)
   case refine_1 => exact absurd (by assumption) hys
   repeat first | refine nx rfl ?_ | refine nf rfl ?_
   (refine AA (AG rfl (Av rfl rfl (by first | exact AV (by omega) (by omega) | exact AY (by omega) (by omega) | exact AW (by omega) (by omega)) ?_)) <;> refine AC (AG rfl ?_))
   repeat refine nx rfl ?_
   refine ⟨k + 1, ⟨rfl, ⟨rfl, rfl, ?_, trivial⟩, ⟨by omega, by rw [ht1]; simp [hn]; exact fun e => hys e.symm, rfl⟩⟩, by omega⟩
   show Value.int .i64 ((k : Int) + 1) = _
   rw [Int.natCast_add]; rfl
 ·obtain rfl : k = l.length := by omega
  refine AA (AG rfl (AM rfl (AZ rfl (Aj rfl rfl (by omega) ?_))))
  repeat first | refine nx rfl ?_ | refine nf rfl ?_
  refine AA (AC (AB rfl ?_))
  repeat refine nx rfl ?_
  rw [List.take_length] at hn
  exact AI rfl ⟨by rw [decide_eq_false hn]; rfl, rfl⟩
theorem keywords_ok (w : World) : Fn Tryz.prog 133 [] w fun v w' => Sl As w' v keysL.length (keysL.map An) ∧ Ext w w' := by
 refine AR Tryz.func133 rfl Tryz.ntmps133 (Nat.le_of_ble_eq_true rfl) (by kernel_rfl) ?_
 repeat refine nx rfl ?_
 refine AA (AC (AM rfl ?_))
 repeat refine nx rfl ?_
 refine AA ?_
 refine W_buildSlice1 (out := keysL.map An) rfl (by omega) rfl (by kernel_rfl) (fun w1 n1 => ?_)
 refine AC (AM rfl ?_)
 repeat refine nx rfl ?_
 exact AI rfl ⟨⟨_, _, rfl, by decide, by decide, (fun h => by cases h), .inr ⟨_, _, rfl, trivial, n1.blk.cells⟩⟩, n1.keep⟩
theorem refName_ok (s : List UInt8) (w : World) : Fn Tryz.prog 98 [An s] w fun v w' => v = .bool (nameB s) ∧ Ext w w' := by
 refine AR Tryz.func98 rfl Tryz.ntmps98 (Nat.le_of_ble_eq_true rfl) (by kernel_rfl) ?_
 repeat refine nx rfl ?_
 refine AA (AC (AB rfl ?_))
 repeat refine nx rfl ?_
 by_cases h1 : s.length < 1
 ·refine AA (A1 rfl (Br rfl (At rfl rfl (by omega) (AB rfl (AL rfl (AL rfl (AL rfl (AK rfl (AB rfl (AB rfl (AL rfl (AL rfl (AL rfl (AK rfl (AB rfl ?_)))))))))))))))
  repeat refine nx rfl ?_
  refine AA (AC (AB rfl ?_))
  repeat refine nx rfl ?_
  exact AI rfl ⟨by rw [CU, decide_eq_false (show ¬ 1 ≤ s.length by omega)]; rfl, Ext.refl _⟩
 by_cases h12 : 12 < s.length
 ·refine AA (A1 rfl (Br rfl (Aj rfl rfl (by omega) (AB rfl (AE rfl (A1 rfl (AE rfl (Br rfl (AE rfl (Co rfl rfl (by omega) (AJ rfl (AB rfl (AB rfl (AL rfl (AL rfl (AL rfl (AK rfl (AB rfl ?_))))))))))))))))))
  repeat refine nx rfl ?_
  refine AA (AC (AB rfl ?_))
  repeat refine nx rfl ?_
  exact AI rfl ⟨by rw [CU, decide_eq_false (show ¬ s.length ≤ 12 by omega)]; simp [upd, Nat.beq], Ext.refl _⟩
 refine AA (A1 rfl (Br rfl (Aj rfl rfl (by omega) (AB rfl (AE rfl (A1 rfl (AE rfl (Br rfl (AE rfl (B9 rfl rfl (by omega) (AJ rfl (AB rfl (AB rfl ?_)))))))))))))
 refine AE rfl (AQ (keywords_ok w) rfl ?_)
 rintro v w1 ⟨hS, k1⟩
 obtain ⟨va, vc, rfl, _⟩ := id hS
 refine AE rfl (A1 rfl ?_)
 refine AE rfl (AQ (in_ok w1 _ keysL s hS) rfl ?_)
 rintro _ wx ⟨rfl, hw⟩
 obtain rfl := hw.symm
 refine AJ rfl (AB rfl (AO ?_))
 by_cases hkey : s ∈ keysL
 ·rw [decide_eq_true hkey]
  repeat refine nx rfl ?_
  refine AA (AC (AB rfl ?_))
  repeat refine nx rfl ?_
  exact AI rfl ⟨by rw [CU, decide_eq_true hkey]; simp [upd, Nat.beq], k1⟩
 rw [decide_eq_false hkey]
 repeat first | refine nx rfl ?_ | refine nf rfl ?_
 refine AA (AC (AG rfl ?_))
 repeat refine nx rfl ?_
 refine A3 (α := Nat) (fun k => [(0, An s), (3, .int .i64 (k : Int))]) (fun k W => k ≤ s.length ∧ (∀ (i : Nat) (c : UInt8), i < k → s[i]? = some c → okAt i c = true) ∧ W = w1) (fun k => s.length - k) 0 ⟨rfl, rfl, trivial⟩ ⟨by omega, fun i c hi => by omega, rfl⟩ ?_
 rintro k w2 f2 ⟨hk, hok, rfl⟩
 repeat refine nx rfl ?_
 by_cases hlt : k < s.length
 ·have hc0 : s[k]? = some s[k] := List.getElem?_eq_getElem hlt
  generalize s[k] = c at hc0
  have cb := c.toNat_lt
  have step : okAt k c = true → ∀ (i : Nat) (d : UInt8), i < k + 1 → s[i]? = some d → okAt i d = true := fun hkc i d hi hd => by
   by_cases hik : i = k
   ·subst hik; rw [hc0] at hd; cases hd; exact hkc
   ·exact hok i d (by omega) hd
  refine AA (AG rfl (A1 rfl (Br rfl (At rfl rfl (by omega) ?_))))
  repeat refine nx rfl ?_
  refine Cn (α := Unit) (fun _ => [(0, An s), (3, .int .i64 (k : Int)), (4, .bool (Bg c))]) (fun _ W => w2 = W) ?_ ?_
  ·by_cases ha : 97 ≤ c.toNat
   ·by_cases hb : c.toNat ≤ 122
    ·rw [show Bg c = true by simp [Bg, ha, hb]]
     (refine AA (A1 rfl (AG rfl (BK rfl rfl (by assumption) ?_))) <;> refine BC rfl rfl (by omega) (AB rfl (AE rfl (A1 rfl (AE rfl (AG rfl (AE rfl (BK rfl rfl (by assumption) ?_))))))) <;> refine AE rfl (BZ rfl rfl (by omega) (AK rfl (AB rfl (AC (AB rfl (AO ?_)))))))
     exact A0 () ⟨rfl, rfl, rfl, trivial⟩ rfl
    ·rw [show Bg c = false by simp [Bg, ha, hb]]
     (refine AA (A1 rfl (AG rfl (BK rfl rfl (by assumption) ?_))) <;> refine BC rfl rfl (by omega) (AB rfl (AE rfl (A1 rfl (AE rfl (AG rfl (AE rfl (BK rfl rfl (by assumption) ?_))))))) <;> refine AE rfl (Bh rfl rfl (by omega) (AK rfl (AB rfl (AC (AB rfl (AO ?_)))))))
     exact A0 () ⟨rfl, rfl, rfl, trivial⟩ rfl
   ·rw [show Bg c = false by simp [Bg, ha]]
    (refine AA (A1 rfl (AG rfl (BK rfl rfl (by assumption) ?_))) <;> refine CD rfl rfl (by omega) (AB rfl (AL rfl (AL rfl (AL rfl (AL rfl (AJ rfl (AB rfl (AC (AB rfl (AO ?_)))))))))))
    exact A0 () ⟨rfl, rfl, rfl, trivial⟩ rfl
  rintro _ _ f3 rfl
  repeat refine nx rfl ?_
  refine Cn (α := Unit) (fun _ => [(0, An s), (3, .int .i64 (k : Int)), (4, .bool (Bg c)), (5, .bool (isDig c || decide (c.toNat = 95)))]) (fun _ W => w2 = W) ?_ ?_
  ·by_cases ha : 48 ≤ c.toNat
   ·by_cases hb : c.toNat ≤ 57
    ·rw [show (isDig c || decide (c.toNat = 95)) = true by simp [isDig, ha, hb]]
     (refine AA (A1 rfl (AG rfl (BK rfl rfl (by assumption) ?_))) <;> refine BC rfl rfl (by omega) (AB rfl (AE rfl (A1 rfl (AE rfl (AG rfl (AE rfl (BK rfl rfl (by assumption) ?_))))))) <;> refine AE rfl (BZ rfl rfl (by omega) (AK rfl (AB rfl (AB rfl (AL rfl (AL rfl (AL rfl (AL rfl (AK rfl (AB rfl (AC (AB rfl (AO ?_))))))))))))))
     exact A0 () ⟨rfl, rfl, rfl, rfl, trivial⟩ rfl
    ·by_cases hu : c.toNat = 95
     ·rw [show (isDig c || decide (c.toNat = 95)) = true by simp [hu]]
      (refine AA (A1 rfl (AG rfl (BK rfl rfl (by assumption) ?_))) <;> refine BC rfl rfl (by omega) (AB rfl (AE rfl (A1 rfl (AE rfl (AG rfl (AE rfl (BK rfl rfl (by assumption) ?_))))))) <;> refine AE rfl (Bh rfl rfl (by omega) (AK rfl (AB rfl (AB rfl (AE rfl (A1 rfl (AE rfl (AG rfl (AE rfl (BK rfl rfl (by assumption) ?_)))))))))) <;> refine AE rfl (Ai rfl rfl (by omega) (AJ rfl (AB rfl (AC (AB rfl (AO ?_)))))))
      exact A0 () ⟨rfl, rfl, rfl, rfl, trivial⟩ rfl
     ·rw [show (isDig c || decide (c.toNat = 95)) = false by simp [isDig, hu, ha, hb]]
      (refine AA (A1 rfl (AG rfl (BK rfl rfl (by assumption) ?_))) <;> refine BC rfl rfl (by omega) (AB rfl (AE rfl (A1 rfl (AE rfl (AG rfl (AE rfl (BK rfl rfl (by assumption) ?_))))))) <;> refine AE rfl (Bh rfl rfl (by omega) (AK rfl (AB rfl (AB rfl (AE rfl (A1 rfl (AE rfl (AG rfl (AE rfl (BK rfl rfl (by assumption) ?_)))))))))) <;> refine AE rfl (AT rfl rfl (by omega) (AJ rfl (AB rfl (AC (AB rfl (AO ?_)))))))
      exact A0 () ⟨rfl, rfl, rfl, rfl, trivial⟩ rfl
   ·rw [show (isDig c || decide (c.toNat = 95)) = false by simp [isDig, ha]; omega]
    (refine AA (A1 rfl (AG rfl (BK rfl rfl (by assumption) ?_))) <;> refine CD rfl rfl (by omega) (AB rfl (AL rfl (AL rfl (AL rfl (AL rfl (AJ rfl (AB rfl (AB rfl (AE rfl (A1 rfl (AE rfl (AG rfl (AE rfl (BK rfl rfl (by assumption) ?_)))))))))))))) <;> refine AE rfl (AT rfl rfl (by omega) (AJ rfl (AB rfl (AC (AB rfl (AO ?_)))))))
    exact A0 () ⟨rfl, rfl, rfl, rfl, trivial⟩ rfl
  rintro _ _ f4 rfl
  repeat refine nx rfl ?_
  have hbad : okAt k c = false → nameB s = false := fun h => by
   have hsh : shapeB s = false := by
    cases hsb : shapeB s with
    | false => rfl
    | true => rw [(shapeB_iff s (by omega)).1 hsb k c hc0] at h; cases h
   rw [CU, hsh]; simp
  have hoke : okAt k c = (Bg c || (decide (0 < k) && (isDig c || decide (c.toNat = 95)))) := rfl
  cases hsm : Bg c with
  | true =>
   refine AA (AB rfl (Ak rfl (AB rfl (AL rfl (AL rfl (AL rfl (AL rfl (AL rfl (AL rfl (AJ rfl (AB rfl ?_)))))))))))
   repeat first | refine nx rfl ?_ | refine nf rfl ?_
   (refine AA (AG rfl (Av rfl rfl (by first | exact AV (by omega) (by omega) | exact AY (by omega) (by omega) | exact AW (by omega) (by omega)) ?_)) <;> refine AC (AG rfl ?_))
   repeat refine nx rfl ?_
   refine ⟨k + 1, ⟨rfl, ⟨rfl, ?_, trivial⟩, ⟨by omega, step (by rw [hoke, hsm]; rfl), rfl⟩⟩, by omega⟩
   show Value.int .i64 ((k : Int) + 1) = _
   rw [Int.natCast_add]; rfl
  | false =>
   by_cases hk0 : k = 0
   ·have hb := hbad (by rw [hoke, hsm, decide_eq_false (show ¬ 0 < k by omega)]; rfl)
    refine AA (AB rfl (Ak rfl (AB rfl (AE rfl (AG rfl (AE rfl (Ai rfl rfl (by omega) (AE rfl (AB rfl (AL rfl (AL rfl (AE rfl (AK rfl (AB rfl (AK rfl (AB rfl ?_))))))))))))))))
    repeat refine nx rfl ?_
    refine AA (AC (AB rfl ?_))
    repeat refine nx rfl ?_
    exact AI rfl ⟨by rw [hb]; rfl, k1⟩
   ·cases hrs : (isDig c || decide (c.toNat = 95)) with
    | true =>
     refine AA (AB rfl (Ak rfl (AB rfl (AE rfl (AG rfl (AE rfl (AT rfl rfl (by omega) (AE rfl (AB rfl (AE rfl (AB rfl (AE rfl (Ak rfl (AE rfl (AJ rfl (AB rfl (AK rfl (AB rfl ?_))))))))))))))))))
     repeat first | refine nx rfl ?_ | refine nf rfl ?_
     (refine AA (AG rfl (Av rfl rfl (by first | exact AV (by omega) (by omega) | exact AY (by omega) (by omega) | exact AW (by omega) (by omega)) ?_)) <;> refine AC (AG rfl ?_))
     repeat refine nx rfl ?_
     refine ⟨k + 1, ⟨rfl, ⟨rfl, ?_, trivial⟩, ⟨by omega, step (by rw [hoke, hsm, hrs, decide_eq_true (show 0 < k by omega)]; rfl), rfl⟩⟩, by omega⟩
     show Value.int .i64 ((k : Int) + 1) = _
     rw [Int.natCast_add]; rfl
    | false =>
     have hb := hbad (by rw [hoke, hsm, hrs]; simp)
     refine AA (AB rfl (Ak rfl (AB rfl (AE rfl (AG rfl (AE rfl (AT rfl rfl (by omega) (AE rfl (AB rfl (AE rfl (AB rfl (AE rfl (Ak rfl (AE rfl (AJ rfl (AB rfl (AK rfl (AB rfl ?_))))))))))))))))))
     repeat refine nx rfl ?_
     refine AA (AC (AB rfl ?_))
     repeat refine nx rfl ?_
     exact AI rfl ⟨by rw [hb]; rfl, k1⟩
 ·obtain rfl : k = s.length := by omega
  have hsh : shapeB s = true := (shapeB_iff s (by omega)).2 fun i c hc => hok i c (List.getElem?_eq_some_iff.1 hc).1 hc
  refine AA (AG rfl (A1 rfl (Br rfl (Aj rfl rfl (by omega) ?_))))
  repeat first | refine nx rfl ?_ | refine nf rfl ?_
  refine AA (AC (AB rfl ?_))
  repeat refine nx rfl ?_
  exact AI rfl ⟨by rw [CU, hsh, decide_eq_false hkey, decide_eq_true (show 1 ≤ s.length by omega), decide_eq_true (show s.length ≤ 12 by omega)]; rfl, k1⟩
end Go.Proofs.YtkhhjdjmhbdjfaaGreatDoor
namespace Go.Proofs.YtkhhjdjmhbdjfaaGreatDoor
open Go.RowKit
set_option linter.unusedVariables false
theorem find_hit {l : List Sgn} {s : List UInt8} {k : Nat} {x : Sgn} (hx : l[k]? = some x) (hn : x.name = s) (hj : ∀ j y, j < k → l[j]? = some y → y.name ≠ s) : Cs l s = (k : Int) := by
 have : l.findIdx? (fun x => decide (x.name = s)) = some k := by
  rw [List.findIdx?_eq_some_iff_getElem]
  obtain ⟨h1, h2⟩ := List.getElem?_eq_some_iff.1 hx
  refine ⟨h1, by simp [h2, hn], fun j hjk => ?_⟩
  have := hj j l[j] hjk (List.getElem?_eq_getElem (by omega))
  simpa using this
 unfold Cs
 rw [this]
theorem find_miss {l : List Sgn} {s : List UInt8} (hj : ∀ j y, j < l.length → l[j]? = some y → y.name ≠ s) : Cs l s = -1 := by
 have : l.findIdx? (fun x => decide (x.name = s)) = none := by
  rw [List.findIdx?_eq_none_iff]
  intro x hx
  obtain ⟨i, hi⟩ := List.getElem?_of_mem hx
  simpa using hj i x (List.getElem?_eq_some_iff.1 hi).1 hi
 unfold Cs
 rw [this]
theorem find_at {l : List Sgn} {s : List UInt8} {k : Nat} (h : Cs l s = (k : Int)) : ∀ j y, j < k → l[j]? = some y → y.name ≠ s := by
 unfold Cs at h
 cases hf : l.findIdx? (fun x => decide (x.name = s)) with
 | none => rw [hf] at h; simp at h
 | some i =>
  rw [hf] at h
  simp only at h
  obtain rfl : i = k := by omega
  rw [List.findIdx?_eq_some_iff_getElem] at hf
  obtain ⟨h1, h2, h3⟩ := hf
  intro j y hj hy
  have := h3 j hj
  rw [(List.getElem?_eq_some_iff.1 hy).2] at this
  simpa using this
theorem rfind_ok (w : World) (v : Value) (l : List Sgn) (s : List UInt8) (h : SlAt sgnR As w v l) : Fn Tryz.prog 99 [v, An s] w fun v w' => v = .int .i64 (Cs l s) ∧ w' = w := by
 have h0 := h
 obtain ⟨a, c, rfl, hlm⟩ := h.len
 refine AR Tryz.func99 rfl Tryz.ntmps99 (Nat.le_of_ble_eq_true rfl) (by kernel_rfl) ?_
 repeat refine nx rfl ?_
 refine AA (AC (AG rfl ?_))
 repeat refine nx rfl ?_
 refine AA (AC (AG rfl ?_))
 repeat refine nx rfl ?_
 refine A3 (α := Nat) (fun k => [(0, .slice a l.length c), (1, An s), (5, .int .i64 (k : Int))]) (fun k W => k ≤ l.length ∧ W = w ∧ ∀ j y, j < k → l[j]? = some y → y.name ≠ s) (fun k => l.length - k) 0 ⟨rfl, rfl, rfl, trivial⟩ ⟨by omega, rfl, fun j y hj => absurd hj (by omega)⟩ ?_
 rintro k w3 f3 ⟨hk, rfl, hj⟩
 repeat refine nx rfl ?_
 by_cases hlt : k < l.length
 ·obtain ⟨y, hy⟩ : ∃ y, l[k]? = some y := ⟨_, List.getElem?_eq_getElem hlt⟩
  obtain ⟨_, b, o, rfl, _, hcell⟩ := h0.sig hy
  have c0 : w3.cell? ⟨b, o + k * 3 + 0, none⟩ = some (An y.name) := hcell 0 _ rfl
  refine AA (AG rfl (AM rfl (AZ rfl (At rfl rfl (by omega) ?_))))
  repeat refine nx rfl ?_
  by_cases hyx : y.name = s
  ·(refine AA (AM rfl (AG rfl (Au rfl rfl rfl (by omega) (AD rfl (AF rfl (by assumption) ?_))))) <;> refine A1 rfl ?_ <;> refine Bs rfl rfl (fun hc => ?_) (fun hc => ?_) <;> refine AO ?_)
   case refine_2 => exact absurd hyx (by assumption)
   repeat refine nx rfl ?_
   refine AA (AG rfl (AC (AG rfl ?_)))
   repeat refine nx rfl ?_
   exact AI rfl ⟨by rw [find_hit hy hyx hj]; rfl, rfl⟩
  ·(refine AA (AM rfl (AG rfl (Au rfl rfl rfl (by omega) (AD rfl (AF rfl (by assumption) ?_))))) <;> refine A1 rfl ?_ <;> refine Bs rfl rfl (fun hc => ?_) (fun hc => ?_) <;> refine AO ?_)
   case refine_1 => exact absurd (by assumption) hyx
   repeat first | refine nx rfl ?_ | refine nf rfl ?_
   (refine AA (AG rfl (Av rfl rfl (by first | exact AV (by omega) (by omega) | exact AY (by omega) (by omega) | exact AW (by omega) (by omega)) ?_)) <;> refine AC (AG rfl ?_))
   repeat refine nx rfl ?_
   refine ⟨k + 1, ⟨rfl, ⟨rfl, rfl, ?_, trivial⟩, ⟨by omega, rfl, fun j z hjk hz => ?_⟩⟩, by omega⟩
   ·show Value.int .i64 ((k : Int) + 1) = _
    rw [Int.natCast_add]; rfl
   ·rcases Nat.lt_or_ge j k with h | h
    ·exact hj j z h hz
    ·obtain rfl : j = k := by omega
     rw [hy] at hz; cases hz; exact hyx
 ·obtain rfl : k = l.length := by omega
  refine AA (AG rfl (AM rfl (AZ rfl (Aj rfl rfl (by omega) ?_))))
  repeat first | refine nx rfl ?_ | refine nf rfl ?_
  refine AA (AC (AG rfl ?_))
  repeat refine nx rfl ?_
  exact AI rfl ⟨by rw [find_miss hj]; rfl, rfl⟩
theorem rsvalid_ok (w : World) (v : Value) (l : List Sgn) (h : SlAt sgnR As w v l) : Fn Tryz.prog 52 [v] w fun u w' => u = .bool (BG l) ∧ Ext w w' := by
 have h0 := h
 obtain ⟨a, c, rfl, hlm⟩ := h.len
 refine AR Tryz.func52 rfl Tryz.ntmps52 (Nat.le_of_ble_eq_true rfl) (by kernel_rfl) ?_
 repeat refine nx rfl ?_
 refine AA (AC (AB rfl ?_))
 repeat refine nx rfl ?_
 by_cases hlen : 1 ≤ l.length ∧ l.length ≤ 6
 case neg =>
  have hv : BG l = false := by
   simp only [BG]
   rw [show (decide (1 ≤ l.length) && decide (l.length ≤ 6)) = false by rw [← Bool.not_eq_true, Bool.and_eq_true, decide_eq_true_eq, decide_eq_true_eq]; exact hlen]
   rfl
  rw [hv]
  by_cases h1 : 1 ≤ l.length
  ·refine AA (AM rfl (AZ rfl (Aj rfl rfl (by omega) (AB rfl (AE rfl (AM rfl (AE rfl (AZ rfl (AE rfl (Co rfl rfl (by omega) (AJ rfl (AB rfl ?_))))))))))))
   repeat refine nx rfl ?_
   refine AA (AC (AB rfl ?_))
   repeat refine nx rfl ?_
   exact AI rfl ⟨rfl, Ext.refl _⟩
  ·refine AA (AM rfl (AZ rfl (At rfl rfl (by omega) (AB rfl (AL rfl (AL rfl (AL rfl (AK rfl (AB rfl ?_)))))))))
   repeat refine nx rfl ?_
   refine AA (AC (AB rfl ?_))
   repeat refine nx rfl ?_
   exact AI rfl ⟨rfl, Ext.refl _⟩
 obtain ⟨hl1, hl6⟩ := hlen
 refine AA (AM rfl (AZ rfl (Aj rfl rfl (by omega) (AB rfl (AE rfl (AM rfl (AE rfl (AZ rfl (AE rfl (B9 rfl rfl (by omega) (AJ rfl (AB rfl ?_))))))))))))
 repeat first | refine nx rfl ?_ | refine nf rfl ?_
 refine AA (AC (AG rfl ?_))
 repeat refine nx rfl ?_
 refine AA (AC (AG rfl ?_))
 repeat refine nx rfl ?_
 refine A3 (α := Nat) (fun k => [(0, .slice a l.length c), (3, .int .i64 (BM (l.take k))), (4, .int .i64 (k : Int))]) (fun k W => k ≤ l.length ∧ Ext w W ∧ ∀ i, i < k → okI l i = true) (fun k => l.length - k) 0 ⟨rfl, rfl, rfl, trivial⟩ ⟨by omega, Ext.refl _, fun i hi => absurd hi (by omega)⟩ ?_
 rintro k w1 f1 ⟨hk, k1, hok⟩
 repeat refine nx rfl ?_
 have hp6 := prodS_six (l := l.take k) (fun i hi => by
  rw [List.length_take] at hi
  have hik : i < k := by omega
  obtain ⟨y, hy⟩ : ∃ y, l[i]? = some y := ⟨_, List.getElem?_eq_getElem (by omega)⟩
  have hy2 : (l.take k)[i]? = some y := by rw [List.getElem?_take, if_pos hik]; exact hy
  have := (Ca hy).1 (hok i hik)
  refine (Ca hy2).2 ⟨this.1, this.2.1, this.2.2.1, fun j z hj hz => ?_⟩
  rw [List.getElem?_take, if_pos (by omega)] at hz
  exact this.2.2.2 j z hj hz) (Nat.le_refl _) (by rw [List.length_take]; omega)
 rw [List.take_length] at hp6
 by_cases hlt : k < l.length
 ·refine AA (AG rfl (AM rfl (AZ rfl (At rfl rfl (by omega) ?_))))
  repeat refine nx rfl ?_
  obtain ⟨x, hx⟩ : ∃ x, l[k]? = some x := ⟨_, List.getElem?_eq_getElem hlt⟩
  obtain ⟨_, b, o, rfl, _, hcell⟩ := h0.sig hx
  have hc0 : ∀ W, Ext w W → W.cell? ⟨b, o + k * 3 + 0, none⟩ = some (An x.name) := fun W e => e.cell (hcell 0 _ rfl) (by simp)
  have hc2 : ∀ W, Ext w W → W.cell? ⟨b, o + k * 3 + 2, none⟩ = some (.int .i64 x.size) := fun W e => e.cell (hcell 2 _ rfl) (by simp)
  have d0 := hc0 w1 k1
  have hxs : okI l k = true ↔ _ := Ca hx
  have hpn := prodS_take hx
  have bad : okI l k = false → BG l = false := valid_false hlt
  refine AA (AM rfl (AG rfl (Au rfl rfl rfl (by omega) (AD rfl (AF rfl (by assumption) ?_)))))
  refine AQ (refName_ok x.name w1) rfl ?_
  rintro _ w2 ⟨rfl, k2⟩
  have e2 := k1.trans k2
  have c0 := hc0 w2 e2
  have c2 := hc2 w2 e2
  cases hnm : nameB x.name with
  | false =>
   have hb := bad (by rw [← Bool.not_eq_true, hxs]; simp [hnm])
   refine Ak rfl (AB rfl (AL rfl (AL rfl (AL rfl (AL rfl (AL rfl (AL rfl ?_)))))))
   refine AL rfl ?_
   refine AL rfl (AL rfl (AK rfl (AB rfl (AB rfl (AL rfl (AL rfl (AL rfl (AL rfl (AL rfl (AL rfl (AK rfl (AB rfl (AB rfl (AL rfl (AL rfl (AL rfl (AL rfl (AL rfl (AL rfl (AK rfl (AB rfl ?_)))))))))))))))))))))
   repeat refine nx rfl ?_
   refine AA (AC (AB rfl ?_))
   repeat refine nx rfl ?_
   exact AI rfl ⟨by rw [hb]; rfl, e2⟩
  | true =>
  refine Ak rfl (AB rfl (AE rfl (AM rfl (AE rfl (AM rfl (AE rfl (AG rfl (AE rfl (Au rfl rfl rfl (by omega) (AE rfl (AD rfl (AE rfl (AF rfl (by assumption) ?_)))))))))))))
  refine AE rfl (AQ (rfind_ok w2 _ l x.name (h0.ext e2)) rfl ?_)
  rintro _ w2 ⟨rfl, rfl⟩
  by_cases hf : Cs l x.name = (k : Int)
  case neg =>
   have hb := bad (by
    rw [← Bool.not_eq_true, hxs]
    intro hh
    exact hf (find_hit hx rfl hh.2.2.2))
   refine AE rfl (AG rfl (AE rfl (W_neqT rfl rfl (by omega) (AJ rfl (AB rfl (AB rfl (AL rfl (AL rfl (AL rfl (AL rfl (AL rfl (AL rfl (AK rfl (AB rfl (AB rfl (AL rfl (AL rfl (AL rfl (AL rfl (AL rfl (AL rfl (AK rfl (AB rfl ?_)))))))))))))))))))))))
   repeat refine nx rfl ?_
   refine AA (AC (AB rfl ?_))
   repeat refine nx rfl ?_
   exact AI rfl ⟨by rw [hb]; rfl, e2⟩
  rw [hf]
  have hfa := find_at hf
  by_cases h2 : 2 ≤ x.size
  case neg =>
   have hb := bad (by rw [← Bool.not_eq_true, hxs]; simp [h2])
   (refine AE rfl (AG rfl (AE rfl (W_neqF rfl rfl (by omega) (AJ rfl (AB rfl (AB rfl (AE rfl (AM rfl (AE rfl (AG rfl (AE rfl (Au rfl rfl rfl (by omega) (AE rfl (AD rfl (AE rfl (AF rfl (by assumption) ?_)))))))))))))))) <;> refine AE rfl (At rfl rfl (by omega) (AJ rfl (AB rfl (AB rfl (AL rfl (AL rfl (AL rfl (AL rfl (AL rfl (AL rfl (AK rfl (AB rfl ?_)))))))))))))
   repeat refine nx rfl ?_
   refine AA (AC (AB rfl ?_))
   repeat refine nx rfl ?_
   exact AI rfl ⟨by rw [hb]; rfl, e2⟩
  by_cases h4 : x.size ≤ 4
  case neg =>
   have hb := bad (by rw [← Bool.not_eq_true, hxs]; simp [h4])
   (refine AE rfl (AG rfl (AE rfl (W_neqF rfl rfl (by omega) (AJ rfl (AB rfl (AB rfl (AE rfl (AM rfl (AE rfl (AG rfl (AE rfl (Au rfl rfl rfl (by omega) (AE rfl (AD rfl (AE rfl (AF rfl (by assumption) ?_)))))))))))))))) <;> refine AE rfl (Aj rfl rfl (by omega) (AJ rfl (AB rfl (AB rfl (AE rfl (AM rfl (AE rfl (AG rfl (AE rfl (Au rfl rfl rfl (by omega) (AE rfl (AD rfl (AE rfl (AF rfl (by assumption) ?_)))))))))))))) <;> refine AE rfl (Co rfl rfl (by omega) (AJ rfl (AB rfl ?_))))
   repeat refine nx rfl ?_
   refine AA (AC (AB rfl ?_))
   repeat refine nx rfl ?_
   exact AI rfl ⟨by rw [hb]; rfl, e2⟩
  have hmul : 0 ≤ BM (l.take k) * x.size ∧ BM (l.take k) * x.size ≤ 4096 * 4 := ⟨Int.mul_nonneg (by omega) (by omega), Int.mul_le_mul hp6.2 h4 (by omega) (by omega)⟩
  (refine AE rfl (AG rfl (AE rfl (W_neqF rfl rfl (by omega) (AJ rfl (AB rfl (AB rfl (AE rfl (AM rfl (AE rfl (AG rfl (AE rfl (Au rfl rfl rfl (by omega) (AE rfl (AD rfl (AE rfl (AF rfl (by assumption) ?_)))))))))))))))) <;> refine AE rfl (Aj rfl rfl (by omega) (AJ rfl (AB rfl (AB rfl (AE rfl (AM rfl (AE rfl (AG rfl (AE rfl (Au rfl rfl rfl (by omega) (AE rfl (AD rfl (AE rfl (AF rfl (by assumption) ?_)))))))))))))) <;> refine AE rfl (B9 rfl rfl (by omega) (AJ rfl (AB rfl ?_))))
  repeat first | refine nx rfl ?_ | refine nf rfl ?_
  (refine AA (AG rfl (AM rfl (AG rfl (Au rfl rfl rfl (by omega) (AD rfl (AF rfl (by assumption) ?_)))))) <;> refine W_mul rfl rfl (by first | exact AV (by omega) (by omega) | exact AY (by omega) (by omega) | exact AW (by omega) (by omega)) ?_ <;> refine AC (AG rfl ?_))
  repeat refine nx rfl ?_
  (refine AA (AG rfl (Av rfl rfl (by first | exact AV (by omega) (by omega) | exact AY (by omega) (by omega) | exact AW (by omega) (by omega)) ?_)) <;> refine AC (AG rfl ?_))
  repeat refine nx rfl ?_
  refine ⟨k + 1, ⟨rfl, ⟨rfl, ?_, ?_, trivial⟩, ⟨by omega, e2, fun i hi => ?_⟩⟩, by omega⟩
  ·exact congrArg (Value.int .i64) hpn.symm
  ·show Value.int .i64 ((k : Int) + 1) = _
   rw [Int.natCast_add]; rfl
  ·by_cases hik : i = k
   ·subst hik; exact hxs.2 ⟨hnm, h2, h4, hfa⟩
   ·exact hok i (by omega)
 ·obtain rfl : k = l.length := by omega
  rw [List.take_length] at hp6 ⊢
  have hall : (List.range l.length).all (okI l) = true := by rw [List.all_eq_true]; intro i hi; exact hok i (List.mem_range.1 hi)
  have hv : BG l = decide (BM l ≤ 64) := by simp only [BG, hall]; simp; omega
  rw [hv]
  refine AA (AG rfl (AM rfl (AZ rfl (Aj rfl rfl (by omega) ?_))))
  repeat first | refine nx rfl ?_ | refine nf rfl ?_
  by_cases h64 : BM l ≤ 64
  ·refine AA (AG rfl (BZ rfl rfl (by omega) (AC (AB rfl ?_))))
   repeat refine nx rfl ?_
   exact AI rfl ⟨congrArg Value.bool (by simp [h64]), k1⟩
  ·refine AA (AG rfl (Bh rfl rfl (by omega) (AC (AB rfl ?_))))
   repeat refine nx rfl ?_
   exact AI rfl ⟨congrArg Value.bool (by simp [h64]), k1⟩
def B7 (b : Bool) : List Sgn → Int
 | [] => 1
 | x :: l => if x.input = b then B7 b l * x.size else B7 b l
theorem sideS_snoc (b : Bool) : ∀ (l : List Sgn) (x : Sgn), B7 b (l ++ [x]) = if x.input = b then B7 b l * x.size else B7 b l
 | [], x => by simp [B7]
 | y :: l, x => by
  rw [List.cons_append, B7, sideS_snoc b l x, B7]
  by_cases h1 : y.input = b <;> by_cases h2 : x.input = b <;> simp [h1, h2, Int.mul_right_comm]
theorem sideS_take {b : Bool} {l : List Sgn} {k : Nat} {x : Sgn} (h : l[k]? = some x) : B7 b (l.take (k + 1)) = if x.input = b then B7 b (l.take k) * x.size else B7 b (l.take k) := by
 rw [List.take_add_one, h, ← sideS_snoc]; rfl
theorem side_prod : ∀ l : List Sgn, B7 true l * B7 false l = BM l
 | [] => rfl
 | x :: l => by
  rw [BM, ← side_prod l, B7, B7]
  cases x.input <;> simp [Int.mul_assoc, Int.mul_left_comm, Int.mul_comm]
theorem side_le (b : Bool) : ∀ (l : List Sgn), (∀ x ∈ l, 2 ≤ x.size ∧ x.size ≤ 4) → 1 ≤ B7 b l ∧ B7 b l ≤ BM l
 | [], _ => by simp [B7, BM]
 | x :: l, h => by
  obtain ⟨h1, h2⟩ := side_le b l fun y hy => h y (by simp [hy])
  obtain ⟨h3, h4⟩ := h x (by simp)
  have h5 : BM l ≤ BM l * x.size := by have := Int.mul_le_mul_of_nonneg_left (show (1 : Int) ≤ x.size by omega) (show 0 ≤ BM l by omega); omega
  rw [B7, BM]
  split
  ·have h6 := Int.mul_le_mul h1 (show (1 : Int) ≤ x.size by omega) (by omega) (by omega)
   exact ⟨by omega, Int.mul_le_mul_of_nonneg_right h2 (by omega)⟩
  ·omega
theorem side_ok (w : World) (v : Value) (l : List Sgn) (b : Bool) (h : SlAt sgnR As w v l) : Fn Tryz.prog 62 [v, .bool b] w fun u w' => u = .int .i64 (if BG l then B7 b l else 0) ∧ Ext w w' := by
 have h0 := h
 obtain ⟨a, c, rfl, hlm⟩ := h.len
 refine AR Tryz.func62 rfl Tryz.ntmps62 (Nat.le_of_ble_eq_true rfl) (by kernel_rfl) ?_
 repeat refine nx rfl ?_
 refine AA (AC (AG rfl ?_))
 repeat refine nx rfl ?_
 refine AA (AM rfl ?_)
 refine AQ (rsvalid_ok w _ l h0) rfl ?_
 rintro _ w1 ⟨rfl, k1⟩
 cases hv : BG l with
 | false =>
  refine Ak rfl ?_
  repeat refine nx rfl ?_
  refine AA (AC (AG rfl ?_))
  repeat refine nx rfl ?_
  exact AI rfl ⟨rfl, k1⟩
 | true =>
 obtain ⟨hl1, hl6, hok, h64⟩ := CN hv
 refine Ak rfl ?_
 repeat first | refine nx rfl ?_ | refine nf rfl ?_
 refine AA (AC (AG rfl ?_))
 repeat refine nx rfl ?_
 refine AA (AC (AG rfl ?_))
 repeat refine nx rfl ?_
 refine A3 (α := Nat) (fun k => [(0, .slice a l.length c), (1, .bool b), (5, .int .i64 (B7 b (l.take k))), (6, .int .i64 (k : Int))]) (fun k W => k ≤ l.length ∧ W = w1) (fun k => l.length - k) 0 ⟨rfl, rfl, rfl, rfl, trivial⟩ ⟨by omega, rfl⟩ ?_
 rintro k W fr ⟨hk, rfl⟩
 repeat refine nx rfl ?_
 by_cases hlt : k < l.length
 ·obtain ⟨x, hx⟩ : ∃ x, l[k]? = some x := ⟨_, List.getElem?_eq_getElem hlt⟩
  obtain ⟨_, b', o, rfl, _, hcell⟩ := (h0.ext k1).sig hx
  have c1 : W.cell? ⟨b', o + k * 3 + 1, none⟩ = some (.bool x.input) := hcell 1 _ rfl
  have c2 : W.cell? ⟨b', o + k * 3 + 2, none⟩ = some (.int .i64 x.size) := hcell 2 _ rfl
  have hbd := side_le b (l.take k) fun y hy => by
   obtain ⟨i, hi⟩ := List.getElem?_of_mem (List.mem_of_mem_take hy)
   have := (Ca hi).1 (hok i (List.getElem?_eq_some_iff.1 hi).1)
   exact ⟨this.2.1, this.2.2.1⟩
  have hp6 := (prodS_six hok hk hl6).2
  have hxs := (Ca hx).1 (hok k hlt)
  have hmul : 0 ≤ B7 b (l.take k) * x.size ∧ B7 b (l.take k) * x.size ≤ 4096 * 4 := ⟨Int.mul_nonneg (by omega) (by omega), Int.mul_le_mul (by omega) hxs.2.2.1 (by omega) (by omega)⟩
  have hst := sideS_take (b := b) hx
  refine AA (AG rfl (AM rfl (AZ rfl (At rfl rfl (by omega) ?_))))
  repeat refine nx rfl ?_
  (refine AA (AM rfl (AG rfl (Au rfl rfl rfl (by omega) (AD rfl (AF rfl (by assumption) ?_))))) <;> refine AB rfl (W_beql rfl rfl (AO ?_)))
  by_cases hb : x.input = b
  ·rw [if_pos hb] at hst
   have e : (x.input == b) = true := by simp [hb]
   rw [e]
   repeat refine nx rfl ?_
   (refine AA (AG rfl (AM rfl (AG rfl (Au rfl rfl rfl (by omega) (AD rfl (AF rfl (by assumption) ?_)))))) <;> refine W_mul rfl rfl (by first | exact AV (by omega) (by omega) | exact AY (by omega) (by omega) | exact AW (by omega) (by omega)) ?_ <;> refine AC (AG rfl ?_))
   repeat refine nx rfl ?_
   (refine AA (AG rfl (Av rfl rfl (by first | exact AV (by omega) (by omega) | exact AY (by omega) (by omega) | exact AW (by omega) (by omega)) ?_)) <;> refine AC (AG rfl ?_))
   repeat refine nx rfl ?_
   refine ⟨k + 1, ⟨rfl, ⟨rfl, rfl, congrArg (Value.int .i64) hst.symm, (by show Value.int .i64 ((k : Int) + 1) = _; rw [Int.natCast_add]; rfl), trivial⟩, ⟨by omega, rfl⟩⟩, by omega⟩
  ·rw [if_neg hb] at hst
   have e : (x.input == b) = false := by simp [hb]
   rw [e]
   repeat first | refine nx rfl ?_ | refine nf rfl ?_
   (refine AA (AG rfl (Av rfl rfl (by first | exact AV (by omega) (by omega) | exact AY (by omega) (by omega) | exact AW (by omega) (by omega)) ?_)) <;> refine AC (AG rfl ?_))
   repeat refine nx rfl ?_
   refine ⟨k + 1, ⟨rfl, ⟨rfl, rfl, congrArg (Value.int .i64) hst.symm, (by show Value.int .i64 ((k : Int) + 1) = _; rw [Int.natCast_add]; rfl), trivial⟩, ⟨by omega, rfl⟩⟩, by omega⟩
 ·obtain rfl : k = l.length := by omega
  rw [List.take_length]
  refine AA (AG rfl (AM rfl (AZ rfl (Aj rfl rfl (by omega) ?_))))
  repeat first | refine nx rfl ?_ | refine nf rfl ?_
  refine AA (AG rfl (AC (AG rfl ?_)))
  repeat refine nx rfl ?_
  exact AI rfl ⟨rfl, k1⟩
theorem rinputs_ok (w : World) (v : Value) (l : List Sgn) (h : SlAt sgnR As w v l) : Fn Tryz.prog 31 [v] w fun u w' => u = .int .i64 (if BG l then B7 true l else 0) ∧ Ext w w' := by
 have h0 := h
 obtain ⟨a, c, rfl, hlm⟩ := h.len
 refine AR Tryz.func31 rfl Tryz.ntmps31 (Nat.le_of_ble_eq_true rfl) (by kernel_rfl) ?_
 repeat refine nx rfl ?_
 refine AA (AC (AG rfl ?_))
 repeat refine nx rfl ?_
 refine AA (AM rfl ?_)
 refine AQ (side_ok w _ l true h0) rfl ?_
 rintro _ w1 ⟨rfl, k1⟩
 refine AC (AG rfl ?_)
 repeat refine nx rfl ?_
 exact AI rfl ⟨rfl, k1⟩
theorem routputs_ok (w : World) (v : Value) (l : List Sgn) (h : SlAt sgnR As w v l) : Fn Tryz.prog 32 [v] w fun u w' => u = .int .i64 (if BG l then B7 false l else 0) ∧ Ext w w' := by
 have h0 := h
 obtain ⟨a, c, rfl, hlm⟩ := h.len
 refine AR Tryz.func32 rfl Tryz.ntmps32 (Nat.le_of_ble_eq_true rfl) (by kernel_rfl) ?_
 repeat refine nx rfl ?_
 refine AA (AC (AG rfl ?_))
 repeat refine nx rfl ?_
 refine AA (AM rfl ?_)
 refine AQ (side_ok w _ l false h0) rfl ?_
 rintro _ w1 ⟨rfl, k1⟩
 refine AC (AG rfl ?_)
 repeat refine nx rfl ?_
 exact AI rfl ⟨rfl, k1⟩
theorem rletters_ok (w : World) (v : Value) (l : List Sgn) (h : SlAt sgnR As w v l) (hv : BG l = true) : Fn Tryz.prog 8 [v] w fun u w' => u = .int .i64 (Bm l) ∧ Ext w w' := by
 have h0 := h
 obtain ⟨a, c, rfl, hlm⟩ := h.len
 obtain ⟨hn1, hn2⟩ := num_valid hv
 obtain ⟨hl1, hl6, hok, h64⟩ := CN hv
 have hbd := fun b => side_le b l fun y hy => by
  obtain ⟨i, hi⟩ := List.getElem?_of_mem hy
  have := (Ca hi).1 (hok i (List.getElem?_eq_some_iff.1 hi).1)
  exact ⟨this.2.1, this.2.2.1⟩
 have b1 := hbd true
 have b2 := hbd false
 have hm := side_prod l
 rw [hn1, ← hm]
 have hmul : 0 ≤ B7 true l * B7 false l ∧ B7 true l * B7 false l ≤ 64 := by rw [hm]; omega
 refine AR Tryz.func8 rfl Tryz.ntmps8 (Nat.le_of_ble_eq_true rfl) (by kernel_rfl) ?_
 repeat refine nx rfl ?_
 refine AA (AC (AG rfl ?_))
 repeat refine nx rfl ?_
 refine AA (AM rfl ?_)
 refine AQ (rinputs_ok w _ l h0) rfl ?_
 rintro _ w1 ⟨rfl, k1⟩
 refine AM rfl ?_
 refine AQ (routputs_ok w1 _ l (h0.ext k1)) rfl ?_
 rintro _ w2 ⟨rfl, k2⟩
 rw [if_pos hv, if_pos hv]
 (refine W_mul rfl rfl (by first | exact AV (by omega) (by omega) | exact AY (by omega) (by omega) | exact AW (by omega) (by omega)) ?_ <;> refine AC (AG rfl ?_))
 repeat refine nx rfl ?_
 exact AI rfl ⟨rfl, k1.trans k2⟩
theorem rssmall_ok (w : World) (v : Value) (l : List Sgn) (h : SlAt sgnR As w v l) : Fn Tryz.prog 20 [v] w fun u w' => ∃ b : Bool, u = .bool b ∧ Ext w w' := by
 have h0 := h
 obtain ⟨a, c, rfl, hlm⟩ := h.len
 refine AR Tryz.func20 rfl Tryz.ntmps20 (Nat.le_of_ble_eq_true rfl) (by kernel_rfl) ?_
 repeat refine nx rfl ?_
 refine AA (AC (AB rfl ?_))
 repeat refine nx rfl ?_
 by_cases h10 : l.length ≤ 10
 ·refine AA (AM rfl (AZ rfl (B9 rfl rfl (by omega) ?_)))
  repeat first | refine nx rfl ?_ | refine nf rfl ?_
  refine AA (AC (AG rfl ?_))
  repeat refine nx rfl ?_
  refine A3 (α := Nat) (fun k => [(0, .slice a l.length c), (3, .int .i64 (k : Int))]) (fun k W => k ≤ l.length ∧ W = w) (fun k => l.length - k) 0 ⟨rfl, rfl, trivial⟩ ⟨by omega, rfl⟩ ?_
  rintro k W fr ⟨hk, rfl⟩
  repeat refine nx rfl ?_
  by_cases hlt : k < l.length
  ·obtain ⟨x, hx⟩ : ∃ x, l[k]? = some x := ⟨_, List.getElem?_eq_getElem hlt⟩
   obtain ⟨_, b', o, rfl, _, hcell⟩ := h0.sig hx
   have c1 : W.cell? ⟨b', o + k * 3 + 0, none⟩ = some (An x.name) := hcell 0 _ rfl
   refine AA (AG rfl (AM rfl (AZ rfl (At rfl rfl (by omega) ?_))))
   repeat refine nx rfl ?_
   by_cases h40 : x.name.length ≤ 40
   ·(refine AA (AM rfl (AG rfl (Au rfl rfl rfl (by omega) (AD rfl (AF rfl (by assumption) ?_))))) <;> refine Br rfl (B9 rfl rfl (by omega) ?_))
    repeat first | refine nx rfl ?_ | refine nf rfl ?_
    (refine AA (AG rfl (Av rfl rfl (by first | exact AV (by omega) (by omega) | exact AY (by omega) (by omega) | exact AW (by omega) (by omega)) ?_)) <;> refine AC (AG rfl ?_))
    repeat refine nx rfl ?_
    refine ⟨k + 1, ⟨rfl, ⟨rfl, ?_, trivial⟩, ⟨by omega, rfl⟩⟩, by omega⟩
    show Value.int .i64 ((k : Int) + 1) = _
    rw [Int.natCast_add]; rfl
   ·(refine AA (AM rfl (AG rfl (Au rfl rfl rfl (by omega) (AD rfl (AF rfl (by assumption) ?_))))) <;> refine Br rfl (Co rfl rfl (by omega) ?_))
    repeat refine nx rfl ?_
    refine AA (AC (AB rfl ?_))
    repeat refine nx rfl ?_
    exact AI rfl ⟨_, rfl, Ext.refl _⟩
  ·refine AA (AG rfl (AM rfl (AZ rfl (Aj rfl rfl (by omega) ?_))))
   repeat first | refine nx rfl ?_ | refine nf rfl ?_
   refine AA (AC (AB rfl ?_))
   repeat refine nx rfl ?_
   exact AI rfl ⟨_, rfl, Ext.refl _⟩
 ·refine AA (AM rfl (AZ rfl (Co rfl rfl (by omega) ?_)))
  repeat refine nx rfl ?_
  refine AA (AC (AB rfl ?_))
  repeat refine nx rfl ?_
  exact AI rfl ⟨_, rfl, Ext.refl _⟩
end Go.Proofs.YtkhhjdjmhbdjfaaGreatDoor
namespace Go.Proofs.YtkhhjdjmhbdjfaaGreatDoor
open Go.RowKit
set_option linter.unusedVariables false
mutual
def Cw (P : Fml → Prop) : Fml → Prop
 | .mk op nm v b args => P (.mk op nm v b args) ∧ allL P args
def allL (P : Fml → Prop) : List Fml → Prop
 | [] => True
 | a :: l => Cw P a ∧ allL P l
end
theorem allL_iff {P : Fml → Prop} : ∀ {l : List Fml}, allL P l ↔ ∀ a ∈ l, Cw P a
 | [] => by simp [allL]
 | a :: l => by simp [allL, allL_iff (l := l)]
theorem allF_iff {P : Fml → Prop} {f : Fml} : Cw P f ↔ P f ∧ ∀ a ∈ f.args, Cw P a := by
 obtain ⟨op, nm, v, b, args⟩ := f
 rw [Cw, allL_iff]; rfl
def cntQ (op lo hi : Int) (ok : Bool) : Prop := ok = true → 1 ≤ op ∧ op ≤ 19 ∧ ∀ n : Nat, lo ≤ n → (0 ≤ hi → (n : Int) ≤ hi) → A8 op n = true
theorem count_ok3 (w : World) (op : Int) : Fn Tryz.prog 186 [.int .i64 op] w fun u w' => ∃ (lo hi : Int) (ok : Bool), u = .tuple #[.int .i64 lo, .int .i64 hi, .bool ok] ∧ w' = w ∧ cntQ op lo hi ok := by
 refine AR Tryz.func186 rfl Tryz.ntmps186 (Nat.le_of_ble_eq_true rfl) (by kernel_rfl) ?_
 repeat refine nx rfl ?_
 refine AA (AC (AG rfl (AC (AG rfl (AC (AB rfl ?_))))))
 repeat refine nx rfl ?_
 refine AA (AG rfl ?_)
 repeat refine nx rfl ?_
 (refine AA ?_ <;> (refine CC rfl rfl (fun hc => ?_) (fun hc => ?_) <;> try omega) <;> refine AC (AB rfl ?_))
 ·repeat refine nx rfl ?_
  refine AA (AC (AG rfl (AC (AG rfl (AC (AB rfl ?_))))))
  repeat refine nx rfl ?_
  exact Bc rfl ⟨0, 0, true, rfl, rfl, fun _ => ⟨by omega, by omega, fun n h1 h2 => by rw [hc]; simp [A8]; omega⟩⟩
 repeat first | refine nx rfl ?_ | refine nf rfl ?_
 (refine AA ?_ <;> (refine CC rfl rfl (fun hc => ?_) (fun hc => ?_) <;> try omega) <;> refine AC (AB rfl ?_))
 ·repeat refine nx rfl ?_
  refine AA (AC (AG rfl (AC (AG rfl (AC (AB rfl ?_))))))
  repeat refine nx rfl ?_
  exact Bc rfl ⟨0, 0, true, rfl, rfl, fun _ => ⟨by omega, by omega, fun n h1 h2 => by rw [hc]; simp [A8]; omega⟩⟩
 repeat first | refine nx rfl ?_ | refine nf rfl ?_
 (refine AA ?_ <;> (refine CC rfl rfl (fun hc => ?_) (fun hc => ?_) <;> try omega) <;> refine AC (AB rfl ?_))
 ·repeat refine nx rfl ?_
  refine AA (AC (AG rfl (AC (AG rfl (AC (AB rfl ?_))))))
  repeat refine nx rfl ?_
  exact Bc rfl ⟨0, 0, true, rfl, rfl, fun _ => ⟨by omega, by omega, fun n h1 h2 => by rw [hc]; simp [A8]; omega⟩⟩
 repeat first | refine nx rfl ?_ | refine nf rfl ?_
 (refine AA ?_ <;> (refine CC rfl rfl (fun hc => ?_) (fun hc => ?_) <;> try omega) <;> refine AC (AB rfl ?_))
 ·repeat refine nx rfl ?_
  refine AA (AC (AG rfl (AC (AG rfl (AC (AB rfl ?_))))))
  repeat refine nx rfl ?_
  exact Bc rfl ⟨1, 1, true, rfl, rfl, fun _ => ⟨by omega, by omega, fun n h1 h2 => by rw [hc]; simp [A8]; omega⟩⟩
 repeat first | refine nx rfl ?_ | refine nf rfl ?_
 (refine AA ?_ <;> (refine CC rfl rfl (fun hc => ?_) (fun hc => ?_) <;> try omega) <;> refine AC (AB rfl ?_))
 ·repeat refine nx rfl ?_
  refine AA (AC (AG rfl (AC (AG rfl (AC (AB rfl ?_))))))
  repeat refine nx rfl ?_
  exact Bc rfl ⟨1, 1, true, rfl, rfl, fun _ => ⟨by omega, by omega, fun n h1 h2 => by rw [hc]; simp [A8]; omega⟩⟩
 repeat first | refine nx rfl ?_ | refine nf rfl ?_
 (refine AA ?_ <;> (refine CC rfl rfl (fun hc => ?_) (fun hc => ?_) <;> try omega) <;> refine AC (AB rfl ?_))
 ·repeat refine nx rfl ?_
  refine AA (AC (AG rfl (AC (AG rfl (AC (AB rfl ?_))))))
  repeat refine nx rfl ?_
  exact Bc rfl ⟨1, 1, true, rfl, rfl, fun _ => ⟨by omega, by omega, fun n h1 h2 => by rw [hc]; simp [A8]; omega⟩⟩
 repeat first | refine nx rfl ?_ | refine nf rfl ?_
 (refine AA ?_ <;> (refine CC rfl rfl (fun hc => ?_) (fun hc => ?_) <;> try omega) <;> refine AC (AB rfl ?_))
 ·repeat refine nx rfl ?_
  refine AA (AC (AG rfl (AC (AG rfl (AC (AB rfl ?_))))))
  repeat refine nx rfl ?_
  exact Bc rfl ⟨1, 1, true, rfl, rfl, fun _ => ⟨by omega, by omega, fun n h1 h2 => by rw [hc]; simp [A8]; omega⟩⟩
 repeat first | refine nx rfl ?_ | refine nf rfl ?_
 (refine AA ?_ <;> (refine CC rfl rfl (fun hc => ?_) (fun hc => ?_) <;> try omega) <;> refine AC (AB rfl ?_))
 ·repeat refine nx rfl ?_
  refine AA (AC (AG rfl (AC (AG rfl (AC (AB rfl ?_))))))
  repeat refine nx rfl ?_
  exact Bc rfl ⟨1, 1, true, rfl, rfl, fun _ => ⟨by omega, by omega, fun n h1 h2 => by rw [hc]; simp [A8]; omega⟩⟩
 repeat first | refine nx rfl ?_ | refine nf rfl ?_
 (refine AA ?_ <;> (refine CC rfl rfl (fun hc => ?_) (fun hc => ?_) <;> try omega) <;> refine AC (AB rfl ?_))
 ·repeat refine nx rfl ?_
  refine AA (AC (AG rfl (AC (AG rfl (AC (AB rfl ?_))))))
  repeat refine nx rfl ?_
  exact Bc rfl ⟨1, 1, true, rfl, rfl, fun _ => ⟨by omega, by omega, fun n h1 h2 => by rw [hc]; simp [A8]; omega⟩⟩
 repeat first | refine nx rfl ?_ | refine nf rfl ?_
 (refine AA ?_ <;> (refine CC rfl rfl (fun hc => ?_) (fun hc => ?_) <;> try omega) <;> refine AC (AB rfl ?_))
 ·repeat refine nx rfl ?_
  refine AA (AC (AG rfl (AC (AG rfl (AC (AB rfl ?_))))))
  repeat refine nx rfl ?_
  exact Bc rfl ⟨1, 1, true, rfl, rfl, fun _ => ⟨by omega, by omega, fun n h1 h2 => by rw [hc]; simp [A8]; omega⟩⟩
 repeat first | refine nx rfl ?_ | refine nf rfl ?_
 (refine AA ?_ <;> (refine CC rfl rfl (fun hc => ?_) (fun hc => ?_) <;> try omega) <;> refine AC (AB rfl ?_))
 ·repeat refine nx rfl ?_
  refine AA (AC (AG rfl (AC (AG rfl (AC (AB rfl ?_))))))
  repeat refine nx rfl ?_
  exact Bc rfl ⟨1, 1, true, rfl, rfl, fun _ => ⟨by omega, by omega, fun n h1 h2 => by rw [hc]; simp [A8]; omega⟩⟩
 repeat first | refine nx rfl ?_ | refine nf rfl ?_
 (refine AA ?_ <;> (refine CC rfl rfl (fun hc => ?_) (fun hc => ?_) <;> try omega) <;> refine AC (AB rfl ?_))
 ·repeat refine nx rfl ?_
  refine AA (AC (AG rfl (AC (AG rfl (AC (AB rfl ?_))))))
  repeat refine nx rfl ?_
  exact Bc rfl ⟨1, 1, true, rfl, rfl, fun _ => ⟨by omega, by omega, fun n h1 h2 => by rw [hc]; simp [A8]; omega⟩⟩
 repeat first | refine nx rfl ?_ | refine nf rfl ?_
 (refine AA ?_ <;> (refine CC rfl rfl (fun hc => ?_) (fun hc => ?_) <;> try omega) <;> refine AC (AB rfl ?_))
 ·repeat refine nx rfl ?_
  refine AA (AC (AG rfl (AC (AG rfl (AC (AB rfl ?_))))))
  repeat refine nx rfl ?_
  exact Bc rfl ⟨2, 2, true, rfl, rfl, fun _ => ⟨by omega, by omega, fun n h1 h2 => by rw [hc]; simp [A8]; omega⟩⟩
 repeat first | refine nx rfl ?_ | refine nf rfl ?_
 (refine AA ?_ <;> (refine CC rfl rfl (fun hc => ?_) (fun hc => ?_) <;> try omega) <;> refine AC (AB rfl ?_))
 ·repeat refine nx rfl ?_
  refine AA (AC (AG rfl (AC (AG rfl (AC (AB rfl ?_))))))
  repeat refine nx rfl ?_
  exact Bc rfl ⟨2, 2, true, rfl, rfl, fun _ => ⟨by omega, by omega, fun n h1 h2 => by rw [hc]; simp [A8]; omega⟩⟩
 repeat first | refine nx rfl ?_ | refine nf rfl ?_
 (refine AA ?_ <;> (refine CC rfl rfl (fun hc => ?_) (fun hc => ?_) <;> try omega) <;> refine AC (AB rfl ?_))
 ·repeat refine nx rfl ?_
  refine AA (AC (AG rfl (AC (AG rfl (AC (AB rfl ?_))))))
  repeat refine nx rfl ?_
  exact Bc rfl ⟨2, 2, true, rfl, rfl, fun _ => ⟨by omega, by omega, fun n h1 h2 => by rw [hc]; simp [A8]; omega⟩⟩
 repeat first | refine nx rfl ?_ | refine nf rfl ?_
 (refine AA ?_ <;> (refine CC rfl rfl (fun hc => ?_) (fun hc => ?_) <;> try omega) <;> refine AC (AB rfl ?_))
 ·repeat refine nx rfl ?_
  refine AA (AC (AG rfl (AC (AG rfl (AC (AB rfl ?_))))))
  repeat refine nx rfl ?_
  exact Bc rfl ⟨2, 2, true, rfl, rfl, fun _ => ⟨by omega, by omega, fun n h1 h2 => by rw [hc]; simp [A8]; omega⟩⟩
 repeat first | refine nx rfl ?_ | refine nf rfl ?_
 (refine AA ?_ <;> (refine CC rfl rfl (fun hc => ?_) (fun hc => ?_) <;> try omega) <;> refine AC (AB rfl ?_))
 ·repeat refine nx rfl ?_
  refine AA (AC (AG rfl (AC (AG rfl (AC (AB rfl ?_))))))
  repeat refine nx rfl ?_
  exact Bc rfl ⟨2, 2, true, rfl, rfl, fun _ => ⟨by omega, by omega, fun n h1 h2 => by rw [hc]; simp [A8]; omega⟩⟩
 repeat first | refine nx rfl ?_ | refine nf rfl ?_
 (refine AA ?_ <;> (refine CC rfl rfl (fun hc => ?_) (fun hc => ?_) <;> try omega) <;> refine AC (AB rfl ?_))
 ·repeat refine nx rfl ?_
  refine AA (AC (AG rfl (AC (AG rfl (AC (AB rfl ?_))))))
  repeat refine nx rfl ?_
  exact Bc rfl ⟨2, -1, true, rfl, rfl, fun _ => ⟨by omega, by omega, fun n h1 h2 => by rw [hc]; simp [A8]; omega⟩⟩
 repeat first | refine nx rfl ?_ | refine nf rfl ?_
 (refine AA ?_ <;> (refine CC rfl rfl (fun hc => ?_) (fun hc => ?_) <;> try omega) <;> refine AC (AB rfl ?_))
 ·repeat refine nx rfl ?_
  refine AA (AC (AG rfl (AC (AG rfl (AC (AB rfl ?_))))))
  repeat refine nx rfl ?_
  exact Bc rfl ⟨2, -1, true, rfl, rfl, fun _ => ⟨by omega, by omega, fun n h1 h2 => by rw [hc]; simp [A8]; omega⟩⟩
 repeat first | refine nx rfl ?_ | refine nf rfl ?_
 refine AA (AC (AG rfl (AC (AG rfl (AC (AB rfl ?_))))))
 repeat refine nx rfl ?_
 exact Bc rfl ⟨0, 0, false, rfl, rfl, fun h => by cases h⟩
end Go.Proofs.YtkhhjdjmhbdjfaaGreatDoor
