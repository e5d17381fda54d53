/- The printer's laws: texts too long for the lexer; what is parsed of a text that was printed. PrinterInverse walked. A law's close: what the walk gives, as the row wants it; the common part. Formulas, requirements, specifications and edits that come in, opened. A law's close where the row lists the parser's variables: what the list gives, the witness, the law's step. PrinterInverse: for every input the law returns true and each argument reads as it did. Conditions: none. -/
import Derived.Test.YtfcgdbmoncnibaaGreatDoorZD15
import Derived.WalkKit
import Derived.ProofKit
import Derived.OpenShut
import Derived.JoinedCond
import Derived.ChangeStays
import Derived.ReadAgain
import Derived.Deep.Slices
import Derived.Test.YtfcgdbmoncnibaaGreatDoorCards
import Derived.Test.YtfcgdbmoncnibaaGreatDoorTie
import Derived.Deep.DeepWitnessRowRef
import Derived.Lib.LaidTab

namespace Go.Proofs.YtfcgdbmoncnibaaGreatDoor
open Go.RowKit
set_option linter.unusedVariables false
def longM (t : List UInt8) : Bool := decide (9000 < t.length) || (match DE t with | .error e => decide (e.1 = 2) | .ok _ => false)
theorem long_ok (w : World) (t : List UInt8) : Fn Tryz.prog 24 [AK t] w fun u w' => u = .bool (longM t) ∧ Ext w w' := by
 refine Ae Tryz.func24 rfl Tryz.ntmps24 (Nat.le_of_ble_eq_true rfl) (by kernel_rfl) ?_
 repeat refine nx rfl ?_
 refine AA (AC (AB rfl ?_))
 repeat refine nx rfl ?_
 (refine AA (AU rfl (Aw rfl ?_)) <;> (refine W_gtr rfl rfl (fun hc => ?_) (fun hc => ?_) <;> try omega))
 ·repeat refine nx rfl ?_
  refine AA (AC (AB rfl ?_))
  repeat refine nx rfl ?_
  refine AP rfl ⟨?_, Ext.refl _⟩
  unfold longM
  rw [decide_eq_true (by omega)]; rfl
 repeat first | refine nx rfl ?_ | refine nf rfl ?_
 refine AA (AU rfl ?_)
 refine AS (reflex_ok w t) rfl ?_
 rintro _ w1 ⟨a, c, e, q, ts, rfl, k1, _, h⟩
 refine Bf rfl (Ab rfl rfl (Ab rfl rfl (Ab rfl rfl (AC (Aa rfl (AC (AH rfl (AC (AH rfl ?_)))))))))
 repeat refine nx rfl ?_
 have hd : decide (9000 < t.length) = false := decide_eq_false (by omega)
 rcases h with ⟨hm, rfl, _⟩ | ⟨p, hm, _, _, _⟩
 ·refine AA (AH rfl (AQ rfl rfl (by omega) (AC (AB rfl ?_))))
  repeat refine nx rfl ?_
  refine AP rfl ⟨?_, k1⟩
  unfold longM
  rw [hd, hm]; rfl
 ·by_cases he : e = 2
  ·refine AA (AH rfl (At rfl rfl (by omega) (AC (AB rfl ?_))))
   repeat refine nx rfl ?_
   refine AP rfl ⟨?_, k1⟩
   unfold longM
   rw [hd, hm]; simp [he]; rfl
  ·refine AA (AH rfl (AQ rfl rfl (by omega) (AC (AB rfl ?_))))
   repeat refine nx rfl ?_
   refine AP rfl ⟨?_, k1⟩
   unfold longM
   rw [hd, hm]; simp [he]; rfl
theorem not_long {nt : NT} {t : List UInt8} {v : nt.T} (h : (∃ p, DE t = .error (2, p)) ∨ PRes nt t (.ok v)) (hl : longM t = false) : PRes nt t (.ok v) := by
 refine h.resolve_left ?_
 rintro ⟨p, e⟩
 unfold longM at hl
 rw [e] at hl; simp at hl
theorem back_F {f : Fml} (hok : okF f = true) (hl : longM (prF 0 f) = false) {o : Out Fml} (h : PRes .formula (prF 0 f) o) : o = .ok f := h.det (not_long (fml_back hok) hl)
theorem back_S {s : Spc} (hok : CZ s = true) (hl : longM (spcT s) = false) {o : Out Spc} (h : PRes .spec (spcT s) o) : o = .ok s := h.det (not_long (spc_back hok) hl)
theorem back_D {e : Edt} (hok : okE e = true) (hl : longM (edtT e) = false) {o : Out Edt} (h : PRes .edit (edtT e) o) : o = .ok e := h.det (not_long (edt_back hok) hl)
theorem unm_keep {w w' w'' : World} (hu : ∀ b, w.heap.size ≤ b → Unm w' b) (k : Ext w' w'') : ∀ b, (fresh w b ∧ b < w'.heap.size) → Unm w'' b :=
 fun b hb => (hu b hb.1).eq (k.block b hb.2 (by simp))
theorem cmp_ok (w w1 w2 : World) (v : Value) (f g : Fml) (c : List Value) (hf : FAt A1 w2 v f) (hg : fmlR.fits (fresh w) w1 c g) (hu : ∀ b, w.heap.size ≤ b → Unm w1 b) (k : Ext w1 w2) (hz : szF f ≤ 1000000) :
  Fn Tryz.prog 26 [v, .agg c.toArray] w2 fun r w' => r = .int .i64 (cmpF f g) ∧ Ext w2 w' :=
 fcompare_ok w2 v _ f g A1 _ hf ((fmlR.lt hg).2.ext k) (.inr (unm_keep hu k)) hz
theorem cmpF_self (f : Fml) : cmpF f f = 0 := (cmpF_zero f f).2 rfl
theorem fit_any {α : Type} (R : Rp α) {ok : Nat → Prop} {w w' : World} {c : List Value} {a : α} (h : R.fits ok w c a) (k : Ext w w') : R.fits A1 w' c a := R.mono (R.ext h k) fun _ _ => trivial
theorem fT_eq {f : Fml} (h : okF f = true) : fT f = prF 0 f := by unfold fT; rw [if_pos h]
theorem sT_eq {s : Spc} (h : CZ s = true) : sT s = spcT s := by unfold sT; rw [if_pos h]
theorem dT_eq {e : Edt} (h : okE e = true) : dT e = edtT e := by unfold dT; rw [if_pos h]
end Go.Proofs.YtfcgdbmoncnibaaGreatDoor
namespace Go.Proofs.YtfcgdbmoncnibaaGreatDoor
open Go.RowKit
set_option linter.unusedVariables false
set_option maxHeartbeats 1600000 in
theorem inverse_ok (w : World) (v : Value) (f : Fml) (cs : List Value) (s : Spc) (ce : List Value) (e : Edt) (hf : FAt A1 w v f) (hs : spcR.fits A1 w cs s) (he : edtR.fits A1 w ce e) (hG : GP w) (hF : GF w) :
  Fn Tryz.prog 8 [v, .agg cs.toArray, .agg ce.toArray] w fun u w' => u = .bool true ∧ Ext w w' := by
 obtain ⟨cf, rfl, hcf, _⟩ := hf.cells
 obtain ⟨er, rfl, hl8, her⟩ : ∃ er, ce = .int .i64 e.kind :: er ∧ er.length = 8 ∧ reqR.fits A1 w er e.req := by
  obtain ⟨d, rfl, hd⟩ := he
  exact ⟨d, rfl, reqR.len hd, hd⟩
 refine Ae Tryz.func8 rfl Tryz.ntmps8 (Nat.le_of_ble_eq_true rfl) (by kernel_rfl) ?_
 repeat refine nx rfl ?_
 (refine AA ?_; refine Bh (L := cf) rfl (fun w1 n1 => ?_))
 refine Bh (L := cs) rfl (fun w2 n2 => ?_)
 refine Bh (L := .int .i64 e.kind :: er) rfl (fun w3 n3 => ?_)
 refine AC (AB rfl ?_)
 repeat refine nx rfl ?_
 have k23 := n2.keep.trans n3.keep
 have k3 : Ext w w3 := n1.keep.trans k23
 refine AA ?_
 refine AS (head_ok w3 (hG.ext k3) (hF.ext k3)) rfl ?_
 rintro _ w4 ⟨rfl, k4⟩
 refine AC (AB rfl ?_)
 repeat refine nx rfl ?_
 have k04 := k3.trans k4
 have bf := n1.blk.keep (k23.trans k4) (by simp)
 have bs := n2.blk.keep (n3.keep.trans k4) (by simp)
 have be := n3.blk.keep k4 (by simp)
 replace hf := hf.ext k04
 replace hs := spcR.ext hs k04
 replace he := edtR.ext he k04
 replace her := reqR.ext her k04
 clear n1 n2 n3 k23 k3
 refine AA (AV rfl bf hcf ?_)
 refine AS (rsmall_ok w4 _ f 400 (by omega) hf) rfl ?_
 rintro _ w5 ⟨rfl, k5⟩
 by_cases hf4 : szF f ≤ 400
 case neg =>
  rw [decide_eq_false hf4]
  refine BB rfl (AB rfl (AI rfl (AI rfl (AI rfl (AL rfl (AB rfl (AB rfl (AI rfl (AI rfl (AI rfl (AI rfl (AL rfl (AB rfl ?_)))))))))))))
  repeat refine nx rfl ?_
  refine AA (AB rfl (AC (AB rfl ?_)))
  repeat refine nx rfl ?_
  exact AP rfl ⟨rfl, k04.trans k5⟩
 rw [decide_eq_true hf4]
 refine BB rfl (AB rfl ?_)
 refine AE rfl (AV rfl (bs.keep k5 (by simp)) (spcR.len hs) ?_)
 refine AE rfl (AS (rsmallSpec_ok w5 _ s 200 (by omega) (spcR.ext hs k5)) rfl ?_)
 rintro _ w6 ⟨rfl, k6⟩
 have k46 := k5.trans k6
 cases hs2 : smS s 200 with
 | false =>
  refine AE rfl (BB rfl (AN rfl (AB rfl (AB rfl (AI rfl (AI rfl (AI rfl (AI rfl (AL rfl (AB rfl ?_))))))))))
  repeat refine nx rfl ?_
  refine AA (AB rfl (AC (AB rfl ?_)))
  repeat refine nx rfl ?_
  exact AP rfl ⟨rfl, k04.trans k46⟩
 | true =>
 refine AE rfl (BB rfl (AN rfl (AB rfl (AB rfl (AE rfl (AD rfl ?_))))))
 have be6 := be.keep k46 (by simp)
 refine AE rfl (Ad (L := er) rfl hl8 (cells_drop (l := [.int .i64 e.kind]) be6.cells rfl) ?_)
 refine AE rfl (AS (rsmallReq_ok w6 _ e.req 200 (by omega) (reqR.ext her k46)) rfl ?_)
 rintro _ w7 ⟨rfl, k7⟩
 have k47 := k46.trans k7
 cases hr2 : smR e.req 200 with
 | false =>
  refine AE rfl (BB rfl (AN rfl (AB rfl ?_)))
  repeat refine nx rfl ?_
  refine AA (AB rfl (AC (AB rfl ?_)))
  repeat refine nx rfl ?_
  exact AP rfl ⟨rfl, k04.trans k47⟩
 | true =>
 refine AE rfl (BB rfl (AN rfl (AB rfl ?_)))
 repeat first | refine nx rfl ?_ | refine nf rfl ?_
 have hsz := smS_sz hs2
 have hez : szF e.req.formula ≤ 200 := by
  simp only [smR, Bool.and_eq_true, decide_eq_true_eq] at hr2
  exact hr2.2
 have k07 := k04.trans k47
 replace bf := bf.keep k47 (by simp)
 replace bs := bs.keep k47 (by simp)
 replace be := be.keep k47 (by simp)
 replace hf := hf.ext k47
 replace hs := spcR.ext hs k47
 replace he := edtR.ext he k47
 have hcs := spcR.len hs
 have hce : (Value.int .i64 e.kind :: er).length = 9 := by simp [hl8]
 clear be6 k46 k04 k47 her k4 k5 k6 k7
 refine AA (AV rfl bf hcf ?_)
 refine AS (printable_ok _ f (Nat.le_refl _) (by omega) w7 _ hf) rfl ?_
 rintro _ w8 ⟨rfl, k8⟩
 refine AJ ?_
 repeat' first | refine AJ ?_ | refine DG ?_ | refine DV ?_
 refine CE (α := Unit) (fun _ => [(3, pt w.heap.size), (4, pt w1.heap.size), (5, pt w2.heap.size), (7, .bool true)]) (fun _ W => Ext w7 W) ?_ ?_
 ·cases hok : okF f with
  | false =>
   repeat first | refine nx rfl ?_ | refine nf rfl ?_
   exact Am () ⟨rfl, rfl, rfl, rfl, trivial⟩ k8
  | true =>
  have ht := fT_eq hok
  have hne := fml_ne hok
  have hbk := @back_F f hok
  repeat refine nx rfl ?_
  refine AA (AV rfl (bf.keep k8 (by simp)) hcf ?_)
  refine AS (prtF_ok w8 _ f (hf.ext k8) (hG.ext (k07.trans k8)) (by omega)) rfl ?_
  rintro _ w9 ⟨rfl, k9⟩
  rw [ht]
  clear ht
  generalize prF 0 f = tx at hne hbk
  refine AC (AU rfl ?_)
  repeat refine nx rfl ?_
  have k79 := k8.trans k9
  refine AA (AU rfl ?_)
  refine AS (parseU_F w9 tx (hG.ext (k07.trans k79)).gk) rfl ?_
  rintro _ w10 ⟨o, c, pF, rfl, k10, fF, uF⟩
  refine Bf rfl (Ab rfl rfl (Ab rfl rfl (Ab rfl rfl ?_)))
  refine A7 (cs := c) rfl (fmlR.len fF) (by rfl) (fmlR.one fF) (fun w11 n11 => ?_)
  have k711 := (k79.trans k10).trans n11.keep
  refine AC (AH rfl (AC (AH rfl ?_)))
  repeat refine nx rfl ?_
  refine AA (AU rfl ?_)
  refine CB rfl rfl (fun hc => ?_) (fun hc => ?_)
  ·exact absurd hc hne
  refine AB rfl (AE rfl (AU rfl ?_))
  refine AE rfl (AS (long_ok w11 tx) rfl ?_)
  rintro _ w12 ⟨rfl, k12⟩
  have k712 := k711.trans k12
  cases hlg : longM tx with
  | true =>
   refine AE rfl (BB rfl (AE rfl (AB rfl (AI rfl (AI rfl (AI rfl (AI rfl (AI rfl (AI rfl (AI rfl (AI rfl (AI rfl (AI rfl (AI rfl (AI rfl (AE rfl (AN rfl (AB rfl (AN rfl (AB rfl ?_))))))))))))))))))))
   repeat first | refine nx rfl ?_ | refine nf rfl ?_
   exact Am () ⟨rfl, rfl, rfl, rfl, trivial⟩ k712
  | false =>
  obtain rfl := hbk hlg pF
  have e1 : Out.errno (Except.ok f : Out Fml) = 0 := rfl
  have e2 : Out.loc (Except.ok f : Out Fml) = -1 := rfl
  refine AE rfl (BB rfl (AE rfl (AB rfl (AE rfl (AH rfl (AE rfl (Di rfl rfl (by omega) (AE rfl (AB rfl (AE rfl (AH rfl (AE rfl (Di rfl rfl (by omega) (AE rfl (AN rfl (AB rfl (AE rfl (AB rfl ?_))))))))))))))))))
  refine AE rfl (AV rfl (bf.keep k712 (by simp)) hcf ?_)
  refine AE rfl (AV rfl (n11.blk.keep k12 (by simp)) (fmlR.len fF) ?_)
  refine AE rfl (AS (cmp_ok w9 w10 w12 _ f f c (hf.ext k712) fF uF (n11.keep.trans k12) (by omega)) rfl ?_)
  rintro _ w13 ⟨rfl, k13⟩
  have e3 := cmpF_self f
  refine AE rfl (Di rfl rfl (by omega) (AE rfl (AN rfl (AB rfl (AE rfl (AL rfl (AB rfl (AN rfl (AB rfl ?_)))))))))
  repeat first | refine nx rfl ?_ | refine nf rfl ?_
  exact Am () ⟨rfl, rfl, rfl, rfl, trivial⟩ (k712.trans k13)
 clear k8
 rintro _ w8 f8 k8
 repeat refine nx rfl ?_
 refine AA (AV rfl (bs.keep k8 (by simp)) hcs ?_)
 refine AS (rprintSpec_ok w8 _ s (spcR.ext hs k8) (by omega)) rfl ?_
 rintro _ w9 ⟨rfl, k9⟩
 replace k9 := k8.trans k9
 clear k8
 refine AJ ?_
 repeat' first | refine AJ ?_ | refine DG ?_ | refine DV ?_
 refine CE (α := Unit) (fun _ => [(5, pt w2.heap.size), (7, .bool true)]) (fun _ W => Ext w7 W) ?_ ?_
 ·cases hok : CZ s with
  | false =>
   repeat first | refine nx rfl ?_ | refine nf rfl ?_
   exact Am () ⟨rfl, rfl, trivial⟩ k9
  | true =>
  have ht := sT_eq hok
  have hbk := @back_S s hok
  repeat refine nx rfl ?_
  refine AA (AV rfl (bs.keep k9 (by simp)) hcs ?_)
  refine AS (prtS_ok w9 _ s (spcR.ext hs k9) (hG.ext (k07.trans k9)) (by omega)) rfl ?_
  rintro _ w10 ⟨rfl, k10⟩
  rw [ht]
  clear ht
  generalize spcT s = tx at hbk
  refine AC (AU rfl ?_)
  repeat refine nx rfl ?_
  have k710 := k9.trans k10
  refine AA (AU rfl ?_)
  refine AS (parseU_S w10 tx (hG.ext (k07.trans k710)).gk) rfl ?_
  rintro _ w11 ⟨o, c, pF, rfl, k11, fF, uF⟩
  refine Bf rfl (Ab rfl rfl (Ab rfl rfl (Ab rfl rfl ?_)))
  refine A7 (cs := c) rfl (spcR.len fF) (by rfl) (spcR.one fF) (fun w12 n12 => ?_)
  have k712 := (k710.trans k11).trans n12.keep
  refine AC (AH rfl (AC (AH rfl ?_)))
  repeat refine nx rfl ?_
  refine AA (AU rfl ?_)
  refine AS (long_ok w12 tx) rfl ?_
  rintro _ w13 ⟨rfl, k13⟩
  have k713 := k712.trans k13
  cases hlg : longM tx with
  | true =>
   refine BB rfl (AB rfl (AI rfl (AI rfl (AI rfl (AI rfl (AI rfl (AI rfl (AI rfl (AI rfl (AN rfl (AB rfl ?_)))))))))))
   repeat first | refine nx rfl ?_ | refine nf rfl ?_
   exact Am () ⟨rfl, rfl, trivial⟩ k713
  | false =>
  obtain rfl := hbk hlg pF
  have e1 : Out.errno (Except.ok s : Out Spc) = 0 := rfl
  refine BB rfl (AB rfl (AE rfl (AH rfl (AE rfl (Di rfl rfl (by omega) (AE rfl (AB rfl ?_)))))))
  refine AE rfl (AV rfl (bs.keep k713 (by simp)) hcs ?_)
  refine AE rfl (AV rfl (n12.blk.keep k13 (by simp)) (spcR.len fF) ?_)
  refine AE rfl (AS (sameSpec_ok w13 _ _ s s (spcR.ext hs k713) (fit_any spcR fF (n12.keep.trans k13))) rfl ?_)
  rintro _ w14 ⟨b, rfl, hb, k14⟩
  obtain rfl := hb.2 rfl
  refine AE rfl (BB rfl (AE rfl (AN rfl (AB rfl (AL rfl (AB rfl ?_))))))
  repeat first | refine nx rfl ?_ | refine nf rfl ?_
  exact Am () ⟨rfl, rfl, trivial⟩ (k713.trans k14)
 clear k9
 rintro _ w9 f9 k9
 repeat refine nx rfl ?_
 refine AA (AV rfl (be.keep k9 (by simp)) hce ?_)
 refine AS (rprintEdit_ok w9 _ e (edtR.ext he k9) (by omega)) rfl ?_
 rintro _ w10 ⟨rfl, k10⟩
 replace k10 := k9.trans k10
 cases hok : okE e with
 | false =>
  refine BB rfl ?_
  repeat refine nx rfl ?_
  refine AA (AB rfl (AC (AB rfl ?_)))
  repeat refine nx rfl ?_
  exact AP rfl ⟨rfl, k07.trans k10⟩
 | true =>
 have ht := dT_eq hok
 have hne := edt_ne e
 have hbk := @back_D e hok
 refine BB rfl ?_
 repeat first | refine nx rfl ?_ | refine nf rfl ?_
 refine AA (AV rfl (be.keep k10 (by simp)) hce ?_)
 refine AS (prtD_ok w10 _ e (edtR.ext he k10) (hG.ext (k07.trans k10)) (by omega)) rfl ?_
 rintro _ w11 ⟨rfl, k11⟩
 rw [ht]
 clear ht
 generalize edtT e = tx at hne hbk
 refine AC (AU rfl ?_)
 repeat refine nx rfl ?_
 have k711 := k10.trans k11
 refine AA (AU rfl ?_)
 refine AS (parseU_D w11 tx (hG.ext (k07.trans k711)).gk) rfl ?_
 rintro _ w12 ⟨o, c, pF, rfl, k12, fF, uF⟩
 refine Bf rfl (Ab rfl rfl (Ab rfl rfl (Ab rfl rfl ?_)))
 refine A7 (cs := c) rfl (edtR.len fF) (by rfl) (edtR.one fF) (fun w13 n13 => ?_)
 have k713 := (k711.trans k12).trans n13.keep
 refine AC (AH rfl (AC (AH rfl ?_)))
 repeat refine nx rfl ?_
 refine AA (AB rfl (AB rfl (AE rfl (AU rfl ?_))))
 (refine AE rfl ?_; refine W_sneq rfl rfl (fun hc => ?_) (fun hc => ?_))
 rotate_left
 ·exact absurd hc hne
 refine AL rfl (AB rfl (AB rfl (AE rfl (AU rfl ?_))))
 refine AE rfl (AS (long_ok w13 tx) rfl ?_)
 rintro _ w14 ⟨rfl, k14⟩
 have k714 := k713.trans k14
 cases hlg : longM tx with
 | true =>
  refine AE rfl (AB rfl (AI rfl (AI rfl (AI rfl (AI rfl (AI rfl (AI rfl (AI rfl (AE rfl (AL rfl (AB rfl (AL rfl (AB rfl (AC (AB rfl ?_)))))))))))))))
  repeat refine nx rfl ?_
  exact AP rfl ⟨rfl, k07.trans k714⟩
 | false =>
 obtain rfl := hbk hlg pF
 have e1 : Out.errno (Except.ok e : Out Edt) = 0 := rfl
 refine AE rfl (AB rfl (AE rfl (AH rfl (AE rfl (At rfl rfl (by omega) (AE rfl (AB rfl ?_)))))))
 refine AE rfl (AV rfl (be.keep k714 (by simp)) hce ?_)
 refine AE rfl (AV rfl (n13.blk.keep k14 (by simp)) (edtR.len fF) ?_)
 refine AE rfl (AS (sameEdit_ok w14 _ _ e e (edtR.ext he k714) (fit_any edtR fF (n13.keep.trans k14))) rfl ?_)
 rintro _ w15 ⟨b, rfl, hb, k15⟩
 obtain rfl := hb.2 rfl
 refine AE rfl (AL rfl (AB rfl (AE rfl (AN rfl (AB rfl (AL rfl (AB rfl (AC (AB rfl ?_)))))))))
 repeat refine nx rfl ?_
 exact AP rfl ⟨rfl, k07.trans (k714.trans k15)⟩
end Go.Proofs.YtfcgdbmoncnibaaGreatDoor
namespace Go.Proofs.YtfcgdbmoncnibaaGreatDoor
open Go.ChangeShapes Go.WideShapes Go.ChangeAt Go.RowKit
open Go.ChangeMaps (open_string)
section
variable {H : Type} {enc : TypeId × Value → H} {P : Program} {W W' : World}
theorem sameAt_ext (he : Ext W W') {p : MemPlace} (hp : p.block < W.heap.size) : W.sameAt W' p := by
 cases p with
 | cell b off => exact World.cell?_of_block (w := W) (a := ⟨b, off, none⟩) (he.block b hp (by simp))
 | map b => exact he.block b hp (by simp)
theorem trodAll_ext (K : Kids P (· < P.types.size)) (hz : ∀ t e, t < P.types.size → P.underlying t = some (.slice e) → 0 < P.cellsOf e) (he : Ext W W') {sp : Nat → Bool} :
  ∀ {ts : List TypeId} {vs : List Value} {ds : List (DataW H)} {ps : List MemPlace}, (∀ t ∈ ts, t < P.types.size) → DataW.TrodAll enc P W 0 (fun _ => true) true ts vs ds ps →
   (∀ p ∈ ps, p.block < W.heap.size) → (∀ p ∈ ps, sp p.block = true) → DataW.TrodAll enc P W' 0 sp true ts vs ds ps
 | [], [], [], _, _, h, _, _ => h
 | _ :: _, _ :: _, _ :: _, _, hT, ⟨p, q, ⟨n, h1⟩, h2, e⟩, hl, hs => by
  subst e
  refine ⟨p, q, ⟨n, DataW.trod_stays K (fun ht hu => hz _ _ ht hu) (fun h => by cases h) (hT _ (by simp)) h1 (fun x hx => sameAt_ext he (hl x (List.mem_append_left _ hx))) fun x hx => hs x (List.mem_append_left _ hx)⟩, ?_, rfl⟩
  exact trodAll_ext K hz he (fun t ht => hT t (List.mem_cons_of_mem _ ht)) h2 (fun x hx => hl x (List.mem_append_right _ hx)) fun x hx => hs x (List.mem_append_right _ hx)
theorem keptBut_ext (he : Ext W W') (may : MemPlace → Prop) : W.keptBut W' may := by
 refine ⟨he.os, he.output, fun i hi => ?_⟩
 rw [he.block i hi (by simp)]
 exact (World.keptBut_refl W may).2.2 i hi
theorem post_of_ext (K : Kids P (· < P.types.size)) (hz : ∀ t e, t < P.types.size → P.underlying t = some (.slice e) → 0 < P.cellsOf e) {f : Func} {s : ChangeSpec} {apart fresh handsOn : Bool} {args : Array Value} {v : Value} {ds gs : List (DataW H)} {before : List MemPlace} {tb : TypeId}
  (hts : ∀ t ∈ f.params.toList, t < P.types.size) (hs : s.vars = []) (hW : DataW.Whole enc P f.params.toList s.vars apart W args.toList ds gs before)
  (hfn : s.fn H (ds ++ gs) = { results := [.lit (.bool true)], args := ds }) (hrt : f.resultTypes = #[tb]) (htb : P.underlying tb = some .bool) (hv : v = .bool true) (he : Ext W W') :
  s.post enc P f apart fresh handsOn false W args v W' := by
 subst hv
 have hlt : ∀ p ∈ before, p.block < W.heap.size := hW.lt
 obtain ⟨p, q, hA, hV, rfl, hf, hn⟩ := id hW
 have hq : gs = [] ∧ q = [] := by
  rw [hs] at hV
  cases gs with
  | nil => exact ⟨rfl, hV⟩
  | cons _ _ => exact hV.elim
 obtain ⟨rfl, rfl⟩ := hq
 refine ⟨ds, [], _, [], p, [], hW, ?_, ?_, ?_, keptBut_ext he _, (fun h => by cases h)⟩
 ·rw [hfn, hrt]
  exact trodAll_cons_mk (shut_bool htb true) trodAll_mk0
 ·rw [hfn]
  exact trodAll_ext K hz he hts hA (fun x hx => hlt x (List.mem_append_left _ hx)) fun x hx => by simpa using hlt x (List.mem_append_left _ hx)
 ·rw [hfn, hs]; exact rfl
end
theorem kids : Kids Tryz.prog (· < Tryz.prog.types.size) := kids_rows (by kernel_rfl) (by kernel_rfl)
theorem full : ∀ t e, t < Tryz.prog.types.size → Tryz.prog.underlying t = some (.slice e) → 0 < Tryz.prog.cellsOf e := slices_full_of Tryz.prog (by kernel_rfl)
theorem own : ownKnob Tryz.prog.godebug = none := by kernel_rfl
section
variable {H : Type} {enc : TypeId × Value → H} {P : Program} {W : World} {sp : Nat → Bool} {hd : Bool}
theorem spot_none {a : Addr} {v : Value} (h : W.cell? a = some v) : a.spot = none := by
 cases ha : a.spot with
 | none => rfl
 | some _ =>
  unfold World.cell? at h
  split at h
  ·simp [ha] at h
  ·cases h
end
end Go.Proofs.YtfcgdbmoncnibaaGreatDoor
namespace Go.Proofs.YtfcgdbmoncnibaaGreatDoor
open Go.ChangeShapes Go.WideShapes Go.ChangeAt Go.RowKit
set_option linter.unusedVariables false
theorem lenF {cs : List Value} (h : cs.length = 5) : ∃ c0 c1 c2 c3 c4, cs = [c0, c1, c2, c3, c4] := by
 match cs, h with
 | [a, b, c, d, e], _ => exact ⟨a, b, c, d, e, rfl⟩
theorem lenR {cs : List Value} (h : cs.length = 8) : ∃ c0 c1 c2 d, cs = c0 :: c1 :: c2 :: d ∧ d.length = 5 := by
 match cs, h with
 | a :: b :: c :: d, h => exact ⟨a, b, c, d, rfl, by simpa using h⟩
theorem lenG {cs : List Value} (h : cs.length = 3) : ∃ c0 c1 c2, cs = [c0, c1, c2] := by
 match cs, h with
 | [a, b, c], _ => exact ⟨a, b, c, rfl⟩
theorem lenS {cs : List Value} (h : cs.length = 2) : ∃ c0 c1, cs = [c0, c1] := by
 match cs, h with
 | [a, b], _ => exact ⟨a, b, rfl⟩
theorem lenE {cs : List Value} (h : cs.length = 9) : ∃ c0 d, cs = c0 :: d ∧ d.length = 8 := by
 match cs, h with
 | a :: d, h => exact ⟨a, d, rfl, by simpa using h⟩
theorem cell_eq {w : World} {b i j : Nat} (h : i = j) : w.cell? ⟨b, i, none⟩ = w.cell? ⟨b, j, none⟩ := by rw [h]
section
variable {H : Type} {enc : TypeId × Value → H} {W : World} {sp : Nat → Bool} {hd : Bool}
theorem open_rows {α : Type} [Inhabited α] {t e : TypeId} {c fuel : Nat} {cs : List Value} {x : DataW H × List MemPlace} (Q : List Value → α → Prop) (ht : Tryz.prog.underlying t = some (.slice e)) (hc : Tryz.prog.cellsOf e = c) (h0 : 0 < c)
  (hQ : ∀ (n : Nat) (cs : List Value) (x : DataW H × List MemPlace), n < fuel → DataW.trod enc Tryz.prog W 0 sp hd n e cs = some x → ∃ a, Q cs a) (h : DataW.trod enc Tryz.prog W 0 sp hd fuel t cs = some x) :
  ∃ (a : Option Addr) (k : Nat) (L : List (List Value)) (l : List α), cs = [.slice a l.length k] ∧ Sl A1 W (.slice a l.length k) l.length L.flatten ∧ L.length = l.length ∧ (∀ d ∈ L, d.length = c) ∧ ∀ (i : Nat) (d : List Value) (a : α), L[i]? = some d → l[i]? = some a → Q d a := by
 rcases DataW.trod_slice ht h with ⟨rfl, _⟩ | ⟨a, len, cap, elems, rest, n, rfl, rfl, _, _, hl, hm, hlen, hel, _, _⟩
 ·exact ⟨none, 0, [], [], rfl, ⟨none, 0, rfl, Nat.le_refl _, by omega, fun _ => rfl, .inl rfl⟩, rfl, (fun d hd => by cases hd), fun i d a h => by simp at h⟩
 ·rw [hc] at hel
  obtain ⟨D, hD⟩ := Deep.choose_lt (α := List Value × α) (n := len) (p := fun i q => W.cells? 0 (a.add (i * c)) c = some q.1 ∧ Q q.1 q.2) (fun i hi => by
   have h1 := hel i hi
   rw [List.getElem?_eq_getElem (by omega)] at h1
   obtain ⟨cs', h2, h3⟩ := Option.bind_eq_some_iff.1 h1
   obtain ⟨b, hb⟩ := hQ n cs' _ (Nat.lt_succ_self n) h3
   exact ⟨(cs', b), h2, hb⟩)
  have hlen' : ∀ i, i < len → (D i).1.length = c := fun i hi => (World.cells?_some (hD i hi).1).2.1
  have hrow : ∀ d ∈ ((List.range len).map fun i => (D i).1), d.length = c := by
   intro d hd
   obtain ⟨i, hi, rfl⟩ := List.mem_map.1 hd
   exact hlen' i (List.mem_range.1 hi)
  have hll : ((List.range len).map fun i => (D i).2).length = len := by simp
  refine ⟨some a, cap, (List.range len).map fun i => (D i).1, (List.range len).map fun i => (D i).2, by rw [hll], ⟨some a, cap, rfl, by omega, by simp only [maxLen] at hm; omega, (fun h => by cases h), ?_⟩, by simp, hrow, ?_⟩
  ·by_cases hz : len = 0
   ·left; omega
   ·right
    have hc0 := (World.cells?_some (hD 0 (by omega)).1).2.2 0 h0
    have hs : a.spot = none := by
     have hd0 := hlen' 0 (by omega)
     rw [List.getElem?_eq_getElem (by omega)] at hc0
     have := spot_none hc0
     simpa [Addr.add] using this
    obtain ⟨b, off, s⟩ := a
    simp only at hs
    subst hs
    refine ⟨b, off, rfl, trivial, fun i u hu => ?_⟩
    have hlt := (List.getElem?_eq_some_iff.1 hu).1
    rw [CV c _ hrow] at hlt
    simp only [List.length_map, List.length_range] at hlt
    have hk : i / c < len := (Nat.div_lt_iff_lt_mul h0).2 hlt
    have hj : i % c < c := Nat.mod_lt _ h0
    have hrk : ((List.range len).map fun i => (D i).1)[i / c]? = some (D (i / c)).1 := by
     rw [List.getElem?_map, List.getElem?_range hk]; rfl
    have hdk := hlen' _ hk
    have hv : (D (i / c)).1[i % c]? = some (D (i / c)).1[i % c] := List.getElem?_eq_getElem (by omega)
    have h1 := Dm c _ _ _ _ _ hrow hrk hv
    have hi : i / c * c + i % c = i := by rw [Nat.mul_comm]; exact Nat.div_add_mod i c
    rw [hi] at h1
    have h2 := (World.cells?_some (hD _ hk).1).2.2 (i % c) hj
    rw [Addr.add_lit, Addr.add_lit, hv] at h2
    have e : u = (D (i / c)).1[i % c] := Option.some.inj (hu.symm.trans h1)
    rw [e, ← h2]
    exact cell_eq (by omega)
  ·intro i d b hd hb
   obtain ⟨h1, rfl⟩ := List.getElem?_eq_some_iff.1 hd
   obtain ⟨_, rfl⟩ := List.getElem?_eq_some_iff.1 hb
   simp at h1
   simp only [List.getElem_map, List.getElem_range]
   exact (hD i (by omega)).2
theorem cellF : Tryz.prog.cellsOf 24 = 5 := by kernel_rfl
theorem cellR : Tryz.prog.cellsOf 30 = 8 := by kernel_rfl
theorem cellS : Tryz.prog.cellsOf 28 = 2 := by kernel_rfl
theorem cellE : Tryz.prog.cellsOf 32 = 9 := by kernel_rfl
theorem cellSg : Tryz.prog.cellsOf 72 = 3 := by kernel_rfl
theorem cellI : Tryz.prog.cellsOf 3 = 1 := by kernel_rfl
theorem cellB : Tryz.prog.cellsOf 4 = 1 := by kernel_rfl
theorem cellSt : Tryz.prog.cellsOf 9 = 1 := by kernel_rfl
theorem cellFs : Tryz.prog.cellsOf 22 = 1 := by kernel_rfl
theorem cellSgs : Tryz.prog.cellsOf 25 = 1 := by kernel_rfl
theorem cellRs : Tryz.prog.cellsOf 26 = 1 := by kernel_rfl
theorem strV_toList (s : ByteArray) : Value.string s = AK s.data.toList := by simp [AK]
theorem Bl {β : Type} {xs : List β} {n i : Nat} (h : xs.length = n) (hi : i < n) : ∃ y, xs[i]? = some y := ⟨_, List.getElem?_eq_getElem (by omega)⟩
theorem open_fml : ∀ (fuel : Nat) (cs : List Value) (x : DataW H × List MemPlace), DataW.trod enc Tryz.prog W 0 sp hd fuel 24 cs = some x → ∃ f : Fml, fmlR.fits A1 W cs f := by
 intro fuel
 induction fuel using Nat.strongRecOn with
 | ind fuel ih =>
 intro cs x h
 obtain ⟨xs, n, rfl, _, hl, hxl, hf⟩ := DataW.trod_struct Tryz.underlying24 h
 rw [cellF] at hl
 obtain ⟨c0, c1, c2, c3, c4, rfl⟩ := lenF hl
 have hx5 : xs.length = 5 := hxl
 have f0 : DataW.trod enc Tryz.prog W 0 sp hd n 3 ((List.drop 0 [c0, c1, c2, c3, c4]).take (Tryz.prog.cellsOf 3)) = xs[0]? := hf 0 _ rfl
 have f1 : DataW.trod enc Tryz.prog W 0 sp hd n 9 ((List.drop 1 [c0, c1, c2, c3, c4]).take (Tryz.prog.cellsOf 9)) = xs[1]? := hf 1 _ rfl
 have f2 : DataW.trod enc Tryz.prog W 0 sp hd n 3 ((List.drop 2 [c0, c1, c2, c3, c4]).take (Tryz.prog.cellsOf 3)) = xs[2]? := hf 2 _ rfl
 have f3 : DataW.trod enc Tryz.prog W 0 sp hd n 3 ((List.drop 3 [c0, c1, c2, c3, c4]).take (Tryz.prog.cellsOf 3)) = xs[3]? := hf 3 _ rfl
 have f4 : DataW.trod enc Tryz.prog W 0 sp hd n 22 ((List.drop 4 [c0, c1, c2, c3, c4]).take (Tryz.prog.cellsOf 22)) = xs[4]? := hf 4 _ rfl
 rw [cellI] at f0 f2 f3
 rw [cellSt] at f1
 rw [cellFs] at f4
 obtain ⟨y0, g0⟩ := Bl (i := 0) hx5 (by omega)
 obtain ⟨y1, g1⟩ := Bl (i := 1) hx5 (by omega)
 obtain ⟨y2, g2⟩ := Bl (i := 2) hx5 (by omega)
 obtain ⟨y3, g3⟩ := Bl (i := 3) hx5 (by omega)
 obtain ⟨y4, g4⟩ := Bl (i := 4) hx5 (by omega)
 obtain ⟨op, e0, _, _⟩ := DataW.trod_int Tryz.underlying3 (f0.trans g0)
 obtain ⟨s, e1, _, _⟩ := DataW.trod_string Tryz.underlying9 (f1.trans g1)
 obtain ⟨v, e2, _, _⟩ := DataW.trod_int Tryz.underlying3 (f2.trans g2)
 obtain ⟨b, e3, _, _⟩ := DataW.trod_int Tryz.underlying3 (f3.trans g3)
 have : Inhabited Fml := ⟨DU⟩
 obtain ⟨a, k, L, l, e4, hS, hL, h5, hA⟩ := open_rows (fun d g => fmlR.fits A1 W d g) Tryz.underlying22 cellF (by omega) (fun m cs x hm hx => ih m (by omega) cs x hx) (f4.trans g4)
 have e0' : c0 = .int .i64 op := by simpa using e0
 have e1' : c1 = AK s.data.toList := by rw [← strV_toList]; simpa using e1
 have e2' : c2 = .int .i64 v := by simpa using e2
 have e3' : c3 = .int .i64 b := by simpa using e3
 have e4' : c4 = .slice a l.length k := by simpa using e4
 subst e0' e1' e2' e3' e4'
 exact ⟨⟨op, s.data.toList, v, b, l⟩, rfl, .mk op _ v b l _ L hS hL h5 fun i c g hc hg => (hA i c g hc hg).2⟩
theorem open_req {fuel : Nat} {cs : List Value} {x : DataW H × List MemPlace} (h : DataW.trod enc Tryz.prog W 0 sp hd fuel 30 cs = some x) : ∃ r : Rqm, reqR.fits A1 W cs r := by
 obtain ⟨xs, n, rfl, _, hl, hxl, hf⟩ := DataW.trod_struct Tryz.underlying30 h
 rw [cellR] at hl
 obtain ⟨c0, c1, c2, d, rfl, hd5⟩ := lenR hl
 have hx4 : xs.length = 4 := hxl
 have f0 : DataW.trod enc Tryz.prog W 0 sp hd n 9 ((List.drop 0 (c0 :: c1 :: c2 :: d)).take (Tryz.prog.cellsOf 9)) = xs[0]? := hf 0 _ rfl
 have f1 : DataW.trod enc Tryz.prog W 0 sp hd n 9 ((List.drop 1 (c0 :: c1 :: c2 :: d)).take (Tryz.prog.cellsOf 9)) = xs[1]? := hf 1 _ rfl
 have f2 : DataW.trod enc Tryz.prog W 0 sp hd n 3 ((List.drop 2 (c0 :: c1 :: c2 :: d)).take (Tryz.prog.cellsOf 3)) = xs[2]? := hf 2 _ rfl
 have f3 : DataW.trod enc Tryz.prog W 0 sp hd n 24 ((List.drop 3 (c0 :: c1 :: c2 :: d)).take (Tryz.prog.cellsOf 24)) = xs[3]? := hf 3 _ rfl
 rw [cellI] at f2
 rw [cellSt] at f0 f1
 rw [cellF] at f3
 obtain ⟨y0, g0⟩ := Bl (i := 0) hx4 (by omega)
 obtain ⟨y1, g1⟩ := Bl (i := 1) hx4 (by omega)
 obtain ⟨y2, g2⟩ := Bl (i := 2) hx4 (by omega)
 obtain ⟨y3, g3⟩ := Bl (i := 3) hx4 (by omega)
 obtain ⟨s, e0, _, _⟩ := DataW.trod_string Tryz.underlying9 (f0.trans g0)
 obtain ⟨t, e1, _, _⟩ := DataW.trod_string Tryz.underlying9 (f1.trans g1)
 obtain ⟨k, e2, _, _⟩ := DataW.trod_int Tryz.underlying3 (f2.trans g2)
 obtain ⟨f, hF⟩ := open_fml _ _ _ (f3.trans g3)
 have e0' : c0 = AK s.data.toList := by rw [← strV_toList]; simpa using e0
 have e1' : c1 = AK t.data.toList := by rw [← strV_toList]; simpa using e1
 have e2' : c2 = .int .i64 k := by simpa using e2
 have e3 : (List.drop 3 (c0 :: c1 :: c2 :: d)).take 5 = d := by simp [← hd5]
 rw [e3] at hF
 subst e0' e1' e2'
 exact ⟨⟨s.data.toList, t.data.toList, k, f⟩, d, rfl, hd5, hF.2⟩
theorem open_sgn {fuel : Nat} {cs : List Value} {x : DataW H × List MemPlace} (h : DataW.trod enc Tryz.prog W 0 sp hd fuel 72 cs = some x) : ∃ r : Sgn, sgnR.fits A1 W cs r := by
 obtain ⟨xs, n, rfl, _, hl, hxl, hf⟩ := DataW.trod_struct Tryz.underlying72 h
 rw [cellSg] at hl
 obtain ⟨c0, c1, c2, rfl⟩ := lenG hl
 have hx3 : xs.length = 3 := hxl
 have f0 : DataW.trod enc Tryz.prog W 0 sp hd n 9 ((List.drop 0 [c0, c1, c2]).take (Tryz.prog.cellsOf 9)) = xs[0]? := hf 0 _ rfl
 have f1 : DataW.trod enc Tryz.prog W 0 sp hd n 4 ((List.drop 1 [c0, c1, c2]).take (Tryz.prog.cellsOf 4)) = xs[1]? := hf 1 _ rfl
 have f2 : DataW.trod enc Tryz.prog W 0 sp hd n 3 ((List.drop 2 [c0, c1, c2]).take (Tryz.prog.cellsOf 3)) = xs[2]? := hf 2 _ rfl
 rw [cellI] at f2
 rw [cellSt] at f0
 rw [cellB] at f1
 obtain ⟨y0, g0⟩ := Bl (i := 0) hx3 (by omega)
 obtain ⟨y1, g1⟩ := Bl (i := 1) hx3 (by omega)
 obtain ⟨y2, g2⟩ := Bl (i := 2) hx3 (by omega)
 obtain ⟨s, e0, _, _⟩ := DataW.trod_string Tryz.underlying9 (f0.trans g0)
 obtain ⟨t, e1, _, _⟩ := DataW.trod_bool Tryz.underlying4 (f1.trans g1)
 obtain ⟨k, e2, _, _⟩ := DataW.trod_int Tryz.underlying3 (f2.trans g2)
 have e0' : c0 = AK s.data.toList := by rw [← strV_toList]; simpa using e0
 have e1' : c1 = .bool t := by simpa using e1
 have e2' : c2 = .int .i64 k := by simpa using e2
 subst e0' e1' e2'
 exact ⟨⟨s.data.toList, t, k⟩, rfl⟩
theorem open_sgns {fuel : Nat} {cs : List Value} {x : DataW H × List MemPlace} (h : DataW.trod enc Tryz.prog W 0 sp hd fuel 25 cs = some x) : ∃ (v : Value) (l : List Sgn), cs = [v] ∧ SlAt sgnR A1 W v l := by
 have : Inhabited Sgn := ⟨⟨[], false, 0⟩⟩
 obtain ⟨a, k, L, l, e, hS, hL, _, hA⟩ := open_rows (fun d g => sgnR.fits A1 W d g) Tryz.underlying25 cellSg (by omega) (fun m cs x _ hx => open_sgn hx) h
 exact ⟨_, l, e, a, k, L, rfl, hS, hL, hA⟩
theorem open_reqs {fuel : Nat} {cs : List Value} {x : DataW H × List MemPlace} (h : DataW.trod enc Tryz.prog W 0 sp hd fuel 26 cs = some x) : ∃ (v : Value) (l : List Rqm), cs = [v] ∧ SlAt reqR A1 W v l := by
 have : Inhabited Rqm := ⟨⟨[], [], 0, DU⟩⟩
 obtain ⟨a, k, L, l, e, hS, hL, _, hA⟩ := open_rows (fun d g => reqR.fits A1 W d g) Tryz.underlying26 cellR (by omega) (fun m cs x _ hx => open_req hx) h
 exact ⟨_, l, e, a, k, L, rfl, hS, hL, hA⟩
theorem open_spc {fuel : Nat} {cs : List Value} {x : DataW H × List MemPlace} (h : DataW.trod enc Tryz.prog W 0 sp hd fuel 28 cs = some x) : ∃ s : Spc, spcR.fits A1 W cs s := by
 obtain ⟨xs, n, rfl, _, hl, hxl, hf⟩ := DataW.trod_struct Tryz.underlying28 h
 rw [cellS] at hl
 obtain ⟨c0, c1, rfl⟩ := lenS hl
 have hx2 : xs.length = 2 := hxl
 have f0 : DataW.trod enc Tryz.prog W 0 sp hd n 25 ((List.drop 0 [c0, c1]).take (Tryz.prog.cellsOf 25)) = xs[0]? := hf 0 _ rfl
 have f1 : DataW.trod enc Tryz.prog W 0 sp hd n 26 ((List.drop 1 [c0, c1]).take (Tryz.prog.cellsOf 26)) = xs[1]? := hf 1 _ rfl
 rw [cellSgs] at f0
 rw [cellRs] at f1
 obtain ⟨y0, g0⟩ := Bl (i := 0) hx2 (by omega)
 obtain ⟨y1, g1⟩ := Bl (i := 1) hx2 (by omega)
 obtain ⟨v0, l0, e0, h0⟩ := open_sgns (f0.trans g0)
 obtain ⟨v1, l1, e1, h1⟩ := open_reqs (f1.trans g1)
 have e0' : c0 = v0 := by simpa using e0
 have e1' : c1 = v1 := by simpa using e1
 subst e0' e1'
 exact ⟨⟨l0, l1⟩, c0, c1, rfl, h0, h1⟩
theorem open_edt {fuel : Nat} {cs : List Value} {x : DataW H × List MemPlace} (h : DataW.trod enc Tryz.prog W 0 sp hd fuel 32 cs = some x) : ∃ e : Edt, edtR.fits A1 W cs e := by
 obtain ⟨xs, n, rfl, _, hl, hxl, hf⟩ := DataW.trod_struct Tryz.underlying32 h
 rw [cellE] at hl
 obtain ⟨c0, d, rfl, hd8⟩ := lenE hl
 have hx2 : xs.length = 2 := hxl
 have f0 : DataW.trod enc Tryz.prog W 0 sp hd n 3 ((List.drop 0 (c0 :: d)).take (Tryz.prog.cellsOf 3)) = xs[0]? := hf 0 _ rfl
 have f1 : DataW.trod enc Tryz.prog W 0 sp hd n 30 ((List.drop 1 (c0 :: d)).take (Tryz.prog.cellsOf 30)) = xs[1]? := hf 1 _ rfl
 rw [cellI] at f0
 rw [cellR] at f1
 obtain ⟨y0, g0⟩ := Bl (i := 0) hx2 (by omega)
 obtain ⟨y1, g1⟩ := Bl (i := 1) hx2 (by omega)
 obtain ⟨k, e0, _, _⟩ := DataW.trod_int Tryz.underlying3 (f0.trans g0)
 have e1 : (List.drop 1 (c0 :: d)).take 8 = d := by simp [← hd8]
 rw [e1] at f1
 obtain ⟨r, hr⟩ := open_req (f1.trans g1)
 have e0' : c0 = .int .i64 k := by simpa using e0
 subst e0'
 exact ⟨⟨k, r⟩, d, rfl, hr⟩
end
set_option maxRecDepth 100000 in
theorem val_struct {W : World} {r : Reach} {t : TypeId} {fs : Array Field} {v : Value} {b : Nat} (ht : Tryz.prog.underlying t = some (.struct fs)) (hval : Value.okWide Tryz.prog W r b t v) : v = .agg v.cells := by
 obtain ⟨cs, rfl, _⟩ := okWide_struct ht hval
 rfl
section
variable {H : Type} {enc : TypeId × Value → H} {W : World} {sp : Nat → Bool} {hd : Bool} {r : Reach} {b : Nat} {v : Value} {x : DataW H × List MemPlace}
set_option maxRecDepth 100000 in
theorem arg_fml (hval : Value.okWide Tryz.prog W r b 24 v) (h : ∃ n, DataW.trod enc Tryz.prog W 0 sp hd n 24 v.cells.toList = some x) : ∃ f : Fml, FAt A1 W v f := by
 obtain ⟨n, h⟩ := h
 obtain ⟨f, hf⟩ := open_fml _ _ _ h
 have e := val_struct Tryz.underlying24 hval
 refine ⟨f, ?_⟩
 rw [e]
 simpa using hf.2
set_option maxRecDepth 100000 in
theorem arg_spc (hval : Value.okWide Tryz.prog W r b 28 v) (h : ∃ n, DataW.trod enc Tryz.prog W 0 sp hd n 28 v.cells.toList = some x) : ∃ (c : List Value) (s : Spc), v = .agg c.toArray ∧ spcR.fits A1 W c s := by
 obtain ⟨n, h⟩ := h
 obtain ⟨s, hs⟩ := open_spc h
 exact ⟨_, s, by rw [Array.toArray_toList]; exact val_struct Tryz.underlying28 hval, hs⟩
set_option maxRecDepth 100000 in
theorem arg_edt (hval : Value.okWide Tryz.prog W r b 32 v) (h : ∃ n, DataW.trod enc Tryz.prog W 0 sp hd n 32 v.cells.toList = some x) : ∃ (c : List Value) (s : Edt), v = .agg c.toArray ∧ edtR.fits A1 W c s := by
 obtain ⟨n, h⟩ := h
 obtain ⟨s, hs⟩ := open_edt h
 exact ⟨_, s, by rw [Array.toArray_toList]; exact val_struct Tryz.underlying32 hval, hs⟩
end
end Go.Proofs.YtfcgdbmoncnibaaGreatDoor
namespace Go.Proofs.YtfcgdbmoncnibaaGreatDoor
open Go.ChangeShapes Go.WideShapes Go.ChangeAt Go.RowKit
set_option linter.unusedVariables false
section
variable {H : Type} {enc : TypeId × Value → H} {P : Program} {w : World} {base : Nat} {sp : Nat → Bool} {held : Bool}
theorem trod_arr {fuel : Nat} {t e : TypeId} {n c : Nat} {cs : List Value} {ds : List (DataW H)} {p : List MemPlace} (ht : P.underlying t = some (.array n e)) (hce : P.cellsOf e = c) (hct : P.cellsOf t = n * c)
  (h : DataW.trod enc P w base sp held fuel t cs = some (.agg ds, p)) : cs.length = n * c ∧ ∃ m, ∀ i, i < n → ∃ d q, ds[i]? = some d ∧ DataW.trod enc P w base sp held m e ((cs.drop (i * c)).take c) = some (d, q) := by
 cases fuel with
 | zero => simp [DataW.trod] at h
 | succ fuel =>
  simp only [DataW.trod, ht, hce, hct] at h
  split at h
  ·rename_i hl
   obtain ⟨xs, hm, hx⟩ := Option.map_eq_some_iff.1 h
   have hxs : xs.map (·.1) = ds := by
    have := congrArg Prod.fst hx
    simpa using this
   refine ⟨hl, fuel, fun i hi => ?_⟩
   obtain ⟨b, hb, hf⟩ := Lib.mapM_at hm i i (by simp [hi])
   exact ⟨b.1, b.2, by rw [← hxs, List.getElem?_map, hb]; rfl, hf⟩
  ·cases h
end
def spanD (p : Nat × Nat × Nat) : DataW Unit := .agg [.lit (.int .u8 (p.1 : Int)), .lit (.int .u8 (p.2.1 : Int)), .lit (.int .i64 (p.2.2 : Int))]
theorem Dd {cs out : List Value} {c i r : Nat} {v : Value} (h : (cs.drop (i * c)).take c = out) (hv : out[r]? = some v) : cs[i * c + r]? = some v := by
 subst h
 rw [List.getElem?_take] at hv
 split at hv
 ·rwa [List.getElem?_drop] at hv
 ·cases hv
theorem len3 {cs : List Value} (h : cs.length = 3) : ∃ c0 c1 c2, cs = [c0, c1, c2] := by
 match cs, h with
 | [a, b, c], _ => exact ⟨a, b, c, rfl⟩
theorem span_piece {w : World} {fuel : Nat} {cs : List Value} {p : Nat × Nat × Nat} {q : List MemPlace} (h : DataW.trod (fun _ => ()) Tryz.prog w 0 (fun _ => true) false fuel 167 cs = some (spanD p, q)) : cs = spanC1 p := by
 have hc : Tryz.prog.cellsOf 167 = 3 := by kernel_rfl
 have h8 : Tryz.prog.cellsOf 5 = 1 := by kernel_rfl
 have hi : Tryz.prog.cellsOf 3 = 1 := by kernel_rfl
 obtain ⟨xs, n, _, hx, hcl, hxl, hf⟩ := DataW.trod_struct Tryz.underlying167 h
 rw [hc] at hcl
 obtain ⟨c0, c1, c2, rfl⟩ := len3 hcl
 have f0 : DataW.trod (fun _ => ()) Tryz.prog w 0 (fun _ => true) false n 5 ((List.drop 0 [c0, c1, c2]).take (Tryz.prog.cellsOf 5)) = xs[0]? := hf 0 _ rfl
 have f1 : DataW.trod (fun _ => ()) Tryz.prog w 0 (fun _ => true) false n 5 ((List.drop 1 [c0, c1, c2]).take (Tryz.prog.cellsOf 5)) = xs[1]? := hf 1 _ rfl
 have f2 : DataW.trod (fun _ => ()) Tryz.prog w 0 (fun _ => true) false n 3 ((List.drop 2 [c0, c1, c2]).take (Tryz.prog.cellsOf 3)) = xs[2]? := hf 2 _ rfl
 have hx3 : xs.length = 3 := hxl
 rw [h8] at f0 f1
 rw [hi] at f2
 have g0 : xs[0]? = some xs[0] := List.getElem?_eq_getElem (by omega)
 have g1 : xs[1]? = some xs[1] := List.getElem?_eq_getElem (by omega)
 have g2 : xs[2]? = some xs[2] := List.getElem?_eq_getElem (by omega)
 obtain ⟨a, ha, ha', _⟩ := DataW.trod_int Tryz.underlying5 (f0.trans g0)
 obtain ⟨b, hb, hb', _⟩ := DataW.trod_int Tryz.underlying5 (f1.trans g1)
 obtain ⟨c, hc2, hc', _⟩ := DataW.trod_int Tryz.underlying3 (f2.trans g2)
 have hd : xs.map (·.1) = [.lit (.int .u8 (p.1 : Int)), .lit (.int .u8 (p.2.1 : Int)), .lit (.int .i64 (p.2.2 : Int))] := by
  have := congrArg Prod.fst hx
  simpa [spanD] using this.symm
 have e0 := congrArg (·[0]?) hd
 have e1 := congrArg (·[1]?) hd
 have e2 := congrArg (·[2]?) hd
 simp [g0, ha'] at e0
 simp [g1, hb'] at e1
 simp [g2, hc'] at e2
 simp at ha hb hc2
 rw [ha, hb, hc2, e0, e1, e2]
 try rfl
theorem sym_piece {w : World} {fuel : Nat} {cs : List Value} {l : List UInt8} {q : List MemPlace} (h : DataW.trod (fun _ => ()) Tryz.prog w 0 (fun _ => true) false fuel 9 cs = some (.lit (.string l), q)) : cs = [AK l] := by
 obtain ⟨s, rfl, hx, _⟩ := DataW.trod_string Tryz.underlying9 h
 have := congrArg Prod.fst hx
 simp at this
 rw [this]
theorem int_at {w : World} {fuel i : Nat} {cs : List Value} {xs : List (DataW Unit × List MemPlace)} {ds : List (DataW Unit)} {z : Int} (hf : DataW.trod (fun _ => ()) Tryz.prog w 0 (fun _ => true) false fuel 3 ((cs.drop i).take 1) = xs[i]?) (hd : xs.map (·.1) = ds) (hi : ds[i]? = some (.lit (.int .i64 z))) : cs[i]? = some (.int .i64 z) := by
 rw [← hd, List.getElem?_map] at hi
 obtain ⟨x, hx, hz⟩ := Option.map_eq_some_iff.1 hi
 obtain ⟨n, hn, rfl, _⟩ := DataW.trod_int Tryz.underlying3 (hf.trans hx)
 simp at hz
 subst hz
 have := congrArg (·[0]?) hn
 simpa [List.getElem?_take, List.getElem?_drop] using this
theorem bool_at {w : World} {fuel i : Nat} {cs : List Value} {xs : List (DataW Unit × List MemPlace)} {ds : List (DataW Unit)} {z : Bool} (hf : DataW.trod (fun _ => ()) Tryz.prog w 0 (fun _ => true) false fuel 4 ((cs.drop i).take 1) = xs[i]?) (hd : xs.map (·.1) = ds) (hi : ds[i]? = some (.lit (.bool z))) : cs[i]? = some (.bool z) := by
 rw [← hd, List.getElem?_map] at hi
 obtain ⟨x, hx, hz⟩ := Option.map_eq_some_iff.1 hi
 obtain ⟨n, hn, rfl⟩ := DataW.trod_bool Tryz.underlying4 (hf.trans hx)
 simp at hz
 subst hz
 have := congrArg (·[0]?) hn
 simpa [List.getElem?_take, List.getElem?_drop] using this
def formD (x : Form) : DataW Unit := .agg [.lit (.int .i64 x.least), .lit (.int .i64 x.most), .lit (.int .i64 x.val), .lit (.int .i64 x.bound), .lit (.bool x.named), .lit (.bool x.past), .lit (.bool x.future), .lit (.bool x.loose)]
theorem form_piece {w : World} {fuel : Nat} {cs : List Value} {p : Form} {q : List MemPlace} (h : DataW.trod (fun _ => ()) Tryz.prog w 0 (fun _ => true) false fuel 175 cs = some (formD p, q)) : cs = CN p := by
 have hc : Tryz.prog.cellsOf 175 = 8 := by kernel_rfl
 have h8 : Tryz.prog.cellsOf 4 = 1 := by kernel_rfl
 have hi : Tryz.prog.cellsOf 3 = 1 := by kernel_rfl
 obtain ⟨xs, n, _, hx, hcl, hxl, hf⟩ := DataW.trod_struct Tryz.underlying175 h
 rw [hc] at hcl
 have hd : xs.map (·.1) = [.lit (.int .i64 p.least), .lit (.int .i64 p.most), .lit (.int .i64 p.val), .lit (.int .i64 p.bound), .lit (.bool p.named), .lit (.bool p.past), .lit (.bool p.future), .lit (.bool p.loose)] := by
  have := congrArg Prod.fst hx
  simpa [formD] using this.symm
 have f0 : DataW.trod (fun _ => ()) Tryz.prog w 0 (fun _ => true) false n 3 ((cs.drop 0).take (Tryz.prog.cellsOf 3)) = xs[0]? := hf 0 _ rfl
 have f1 : DataW.trod (fun _ => ()) Tryz.prog w 0 (fun _ => true) false n 3 ((cs.drop 1).take (Tryz.prog.cellsOf 3)) = xs[1]? := hf 1 _ rfl
 have f2 : DataW.trod (fun _ => ()) Tryz.prog w 0 (fun _ => true) false n 3 ((cs.drop 2).take (Tryz.prog.cellsOf 3)) = xs[2]? := hf 2 _ rfl
 have f3 : DataW.trod (fun _ => ()) Tryz.prog w 0 (fun _ => true) false n 3 ((cs.drop 3).take (Tryz.prog.cellsOf 3)) = xs[3]? := hf 3 _ rfl
 have f4 : DataW.trod (fun _ => ()) Tryz.prog w 0 (fun _ => true) false n 4 ((cs.drop 4).take (Tryz.prog.cellsOf 4)) = xs[4]? := hf 4 _ rfl
 have f5 : DataW.trod (fun _ => ()) Tryz.prog w 0 (fun _ => true) false n 4 ((cs.drop 5).take (Tryz.prog.cellsOf 4)) = xs[5]? := hf 5 _ rfl
 have f6 : DataW.trod (fun _ => ()) Tryz.prog w 0 (fun _ => true) false n 4 ((cs.drop 6).take (Tryz.prog.cellsOf 4)) = xs[6]? := hf 6 _ rfl
 have f7 : DataW.trod (fun _ => ()) Tryz.prog w 0 (fun _ => true) false n 4 ((cs.drop 7).take (Tryz.prog.cellsOf 4)) = xs[7]? := hf 7 _ rfl
 rw [hi] at f0 f1 f2 f3
 rw [h8] at f4 f5 f6 f7
 apply List.ext_getElem?
 intro i
 match i with
 | 0 => exact int_at f0 hd rfl
 | 1 => exact int_at f1 hd rfl
 | 2 => exact int_at f2 hd rfl
 | 3 => exact int_at f3 hd rfl
 | 4 => exact bool_at f4 hd rfl
 | 5 => exact bool_at f5 hd rfl
 | 6 => exact bool_at f6 hd rfl
 | 7 => exact bool_at f7 hd rfl
 | i + 8 => rw [List.getElem?_eq_none (by omega), List.getElem?_eq_none (by simp [CN])]
def laidL : List (String × DataW Unit) := [("math/bits.deBruijn32tab", Rows.laid_math_bits_deBruijn32tab), ("math/bits.deBruijn64tab", Rows.laid_math_bits_deBruijn64tab), ("internal/strconv.uint64pow10", Rows.laid_internal_strconv_uint64pow10), ("strconv.ErrRange", Rows.laid_strconv_ErrRange), ("strconv.ErrSyntax", Rows.laid_strconv_ErrSyntax), ("foresight/signal.keys", Rows.laid_foresight_signal_keys), ("foresight/formula.forms", Rows.laid_foresight_formula_forms), ("foresight/lexer.spans", Rows.laid_foresight_lexer_spans), ("foresight/lexer.symbols", Rows.laid_foresight_lexer_symbols)]
theorem gp_of_laid {W : World} (h : laidMetH Tryz.prog laidL W) : GP W ∧ GF W := by
 have h' : laidMet Tryz.prog laidL W := h
 obtain ⟨ps, ⟨g1, t1, cs1, fu1, p1, q1, hg1, ht1, hv1, hd1, ⟨g2, t2, cs2, fu2, p2, q2, hg2, ht2, hv2, hd2, ⟨g3, t3, cs3, fu3, p3, q3, hg3, ht3, hv3, hd3, ⟨g4, t4, cs4, fu4, p4, q4, hg4, ht4, hv4, hd4, ⟨g5, t5, cs5, fu5, p5, q5, hg5, ht5, hv5, hd5, ⟨g6, t6, cs6, fu6, p6, q6, hg6, ht6, hv6, hd6, ⟨g9, t9, cs9, fu9, p9, q9, hg9, ht9, hv9, hd9, ⟨g7, t7, cs7, fu7, p7, q7, hg7, ht7, hv7, hd7, ⟨g8, t8, cs8, fu8, p8, q8, hg8, ht8, hv8, hd8, _, _⟩, _⟩, _⟩, _⟩, _⟩, _⟩, _⟩, _⟩, _⟩, _⟩ := h'
 have n2 : Tryz.prog.globalNamed "math/bits.deBruijn64tab" = some 9 := by kernel_rfl
 have n6 : Tryz.prog.globalNamed "foresight/signal.keys" = some 3 := by kernel_rfl
 have n7 : Tryz.prog.globalNamed "foresight/lexer.spans" = some 0 := by kernel_rfl
 have n8 : Tryz.prog.globalNamed "foresight/lexer.symbols" = some 1 := by kernel_rfl
 have n9 : Tryz.prog.globalNamed "foresight/formula.forms" = some 2 := by kernel_rfl
 have n3 : Tryz.prog.globalNamed "internal/strconv.uint64pow10" = some 7 := by kernel_rfl
 have y9 : (Tryz.prog.globals[2]?).map (·.type) = some 200 := by kernel_rfl
 have y3 : (Tryz.prog.globals[7]?).map (·.type) = some 229 := by kernel_rfl
 have y6 : (Tryz.prog.globals[3]?).map (·.type) = some 201 := by kernel_rfl
 have y7 : (Tryz.prog.globals[0]?).map (·.type) = some 168 := by kernel_rfl
 have y8 : (Tryz.prog.globals[1]?).map (·.type) = some 198 := by kernel_rfl
 obtain rfl := Option.some.inj (n9.symm.trans hg9)
 obtain rfl := Option.some.inj (n3.symm.trans hg3)
 obtain rfl := Option.some.inj (y9.symm.trans ht9)
 obtain rfl := Option.some.inj (y3.symm.trans ht3)
 obtain rfl := Option.some.inj (n6.symm.trans hg6)
 obtain rfl := Option.some.inj (n7.symm.trans hg7)
 obtain rfl := Option.some.inj (n8.symm.trans hg8)
 obtain rfl := Option.some.inj (y6.symm.trans ht6)
 obtain rfl := Option.some.inj (y7.symm.trans ht7)
 obtain rfl := Option.some.inj (y8.symm.trans ht8)
 refine ⟨⟨⟨⟨?_, ?_, ?_⟩, ?_⟩, ?_⟩, ?_⟩
 ·obtain ⟨hl, m, hp⟩ := trod_arr (ds := spansL.map spanD) Tryz.underlying168 (by kernel_rfl : Tryz.prog.cellsOf 167 = 3) (by kernel_rfl) hd7
  intro j u hu
  have hj : j < 48 := (List.getElem?_eq_some_iff.1 hu).1
  obtain ⟨p, hsp⟩ : ∃ p, spansL[j / 3]? = some p := ⟨_, List.getElem?_eq_getElem (by show j / 3 < 16; omega)⟩
  obtain ⟨d, q, hd, ht⟩ := hp (j / 3) (by omega)
  rw [List.getElem?_map, hsp] at hd
  cases hd
  have e1 := span_piece ht
  have e2 := spanC_at spansL (j / 3) p hsp
  obtain ⟨v, hr⟩ : ∃ v, (spanC1 p)[j % 3]? = some v := ⟨_, List.getElem?_eq_getElem (by show j % 3 < 3; omega)⟩
  have c1 := Dd e1 hr
  have c2 := Dd e2 hr
  rw [show j / 3 * 3 + j % 3 = j by omega] at c1 c2
  have hu' : (spansL.flatMap spanC1)[j]? = some u := hu
  rw [c2] at hu'
  rw [Nat.zero_add, World.var?_cell n7 hv7 j]
  rw [← hu', ← c1]
  simp
 ·obtain ⟨hl, m, hp⟩ := trod_arr (ds := symsL.map fun l => .lit (.string l)) Tryz.underlying198 (by kernel_rfl : Tryz.prog.cellsOf 9 = 1) (by kernel_rfl) hd8
  intro j u hu
  have hj : j < 15 := (List.getElem?_eq_some_iff.1 hu).1
  obtain ⟨p, hsp⟩ : ∃ p, symsL[j]? = some p := ⟨_, List.getElem?_eq_getElem hj⟩
  obtain ⟨d, q, hd, ht⟩ := hp j hj
  rw [List.getElem?_map, hsp] at hd
  cases hd
  have c1 := Dd (r := 0) (sym_piece ht) rfl
  have hu' : (symsL.map AK)[j]? = some u := hu
  rw [List.getElem?_map, hsp] at hu'
  cases hu'
  rw [Nat.zero_add, World.var?_cell n8 hv8 j]
  simpa using c1
 ·have hv := hv2
  simp only [World.var?, n2, Option.bind_some] at hv
  split at hv
  ·rename_i e
   have := (Array.getElem?_eq_some_iff.1 e).1
   omega
  ·cases hv
 ·obtain ⟨hl, m, hp⟩ := trod_arr (ds := keysL.map fun l => .lit (.string l)) Tryz.underlying201 (by kernel_rfl : Tryz.prog.cellsOf 9 = 1) (by kernel_rfl) hd6
  intro j u hu
  have hj : j < 10 := (List.getElem?_eq_some_iff.1 hu).1
  obtain ⟨p, hsp⟩ : ∃ p, keysL[j]? = some p := ⟨_, List.getElem?_eq_getElem hj⟩
  obtain ⟨d, q, hd, ht⟩ := hp j hj
  rw [List.getElem?_map, hsp] at hd
  cases hd
  have c1 := Dd (r := 0) (sym_piece ht) rfl
  have hu' : (keysL.map AK)[j]? = some u := hu
  rw [List.getElem?_map, hsp] at hu'
  cases hu'
  rw [Nat.zero_add, World.var?_cell n6 hv6 j]
  simpa using c1
 ·have hc := Lib.cells_of_tab (zs := Lib.pow10Tab) (k := .u64) Tryz.underlying229 Tryz.underlying217 (by kernel_rfl) (by kernel_rfl) hd3
  unfold Lib.TabIs
  rw [hv3, ← hc]
 ·obtain ⟨hl, m, hp⟩ := trod_arr (ds := formsL.map formD) Tryz.underlying200 (by kernel_rfl : Tryz.prog.cellsOf 175 = 8) (by kernel_rfl) hd9
  intro j u hu
  have hj : j < 160 := (List.getElem?_eq_some_iff.1 hu).1
  obtain ⟨p, hsp⟩ : ∃ p, formsL[j / 8]? = some p := ⟨_, List.getElem?_eq_getElem (by show j / 8 < 20; omega)⟩
  obtain ⟨d, q, hd, ht⟩ := hp (j / 8) (by omega)
  rw [List.getElem?_map, hsp] at hd
  cases hd
  have e1 := form_piece ht
  obtain ⟨v, hr⟩ : ∃ v, (CN p)[j % 8]? = some v := ⟨_, List.getElem?_eq_getElem (by show j % 8 < 8; omega)⟩
  have c1 := Dd e1 hr
  have c2 := formC_at formsL (j / 8) (j % 8) p v hsp hr
  rw [show j / 8 * 8 + j % 8 = j by omega] at c1 c2
  have hu' : (formsL.flatMap CN)[j]? = some u := hu
  rw [c2] at hu'
  rw [Nat.zero_add, World.var?_cell n9 hv9 j]
  rw [← hu', ← c1]
  simp
set_option maxRecDepth 100000 in
theorem law_liftedL {os : Os} (started : os.Started) {k : FuncId} {fn : Func} {s : ChangeSpec} {conds : List PathCond} {fresh : Bool} {H : Type} {enc : TypeId × Value → H} (F : Stop.Interp) (noInit : Tryz.prog.inits.idxOf? k = none) (hfn : Tryz.prog.funcs[k]? = some fn)
  (witness : ∃ (w : World) (tape : Tape) (i : Input), w.os = os ∧ (w.forCall tape i).Shaped Tryz.prog ∧ i.vars = [] ∧ Input.okWide Tryz.prog (w.forCall tape i) .any w.heap.size k i ∧
   (OpenSpec.ofChange s).preRow enc Tryz.prog fn conds false laidL (w.forCall tape i).memory i.args ∧ ({} : Assume).holds Tryz.prog (lone (Frame.enter Tryz.prog k i.args .normal) [] (w.forCall tape i)))
  (hs : s.vars = []) (hts : (fn.params.toList.all fun t => decide (t < Tryz.prog.types.size)) = true) (hrt : fn.resultTypes = #[4])
  (hspec : ∀ ds : List (DataW H), ds.length = fn.params.toList.length → s.fn H ds = { results := [.lit (.bool true)], args := ds })
  (law : ∀ (W : World) (base : Nat) (args : List Value) (ds : List (DataW H)) (p : List MemPlace), (∀ (j : Nat) t v, fn.params.toList[j]? = some t → args[j]? = some v → Value.okWide Tryz.prog W .any base t v) →
   DataW.TrodAll enc Tryz.prog W 0 (fun _ => true) true fn.params.toList args ds p → GP W ∧ GF W → Fn Tryz.prog k args W fun v w' => v = .bool true ∧ Ext W w') :
  ReturnsInHanded {} Tryz.checked os k .any ((OpenSpec.ofChange s).preRow enc Tryz.prog fn conds false laidL) (((OpenSpec.ofChange s).at F).post enc Tryz.prog fn false fresh false false) := by
 refine returnsInHanded_of_row (C := Tryz.checked) (s := OpenSpec.ofChange s) own started noInit hfn witness ?_
 intro W base args ds gs before hval hW _ _ _ hL _ _
 have hW' : DataW.Whole enc Tryz.prog fn.params.toList s.vars false W args.toList ds gs before := hW
 obtain ⟨p, q, hA, hV, rfl, hf, hn⟩ := hW
 have hg : gs = [] := by
  have hV' : DataW.TrodVars enc Tryz.prog W (fun _ => true) s.vars gs q := hV
  rw [hs] at hV'
  cases gs with
  | nil => rfl
  | cons _ _ => exact hV'.elim
 subst hg
 have hlen : ∀ {ts : List TypeId} {vs : List Value} {ds : List (DataW H)} {ps : List MemPlace}, DataW.TrodAll enc Tryz.prog W 0 (fun _ => true) true ts vs ds ps → ds.length = ts.length := by
  intro ts
  induction ts with
  | nil => intro vs ds ps h; obtain ⟨rfl, rfl, rfl⟩ := trodAll_nil h; rfl
  | cons t ts ih => intro vs ds ps h; obtain ⟨v, vs1, d, ds1, a, b, rfl, rfl, rfl, h1, h2⟩ := trodAll_cons h; simp [ih h2]
 refine Calls.mono (law W base args.toList ds p (fun j t v h1 h2 => hval j t v (Array.getElem?_toList.symm.trans h1) (Array.getElem?_toList.symm.trans h2)) hA (gp_of_laid hL)) fun e W' he => ?_
 cases e with
 | returned v =>
  refine ⟨v, rfl, post_of_ext kids full (fun t ht => of_decide_eq_true (List.all_eq_true.1 hts t ht)) hs hW' ?_ hrt Tryz.underlying4 he.1 he.2⟩
  rw [List.append_nil]; exact hspec ds (hlen hA)
 | panicked ch => exact he.elim
 | outgrown => exact he.elim
def layC (cs : List Value) : Obj → Obj
 | .cells _ t frozen => .cells cs.toArray t frozen
 | o => o
def tabC : DataW Unit → List Value
 | .agg l => l.map fun d => match d with | .lit (.int k z) => .int k z | _ => .bool false
 | _ => []
noncomputable def laidWorld (os : Os) : World :=
 let w := World.holding Tryz.prog os ⟨#[.cells #[AK [118, 97, 108, 117, 101, 32, 111, 117, 116, 32, 111, 102, 32, 114, 97, 110, 103, 101]] 236, .cells #[AK [105, 110, 118, 97, 108, 105, 100, 32, 115, 121, 110, 116, 97, 120]] 236], #[], []⟩
 { w with heap := (((((((((w.heap.modify 2 (layC formC)).modify 0 (layC spanC)).modify 1 (layC symC)).modify 3 (layC keyC)).modify 6 (layC [.iface 234 (.pointer (some ⟨15, 0, none⟩))])).modify 5 (layC [.iface 234 (.pointer (some ⟨16, 0, none⟩))])).modify 7 (layC (tabC Rows.laid_internal_strconv_uint64pow10))).modify 8 (layC (tabC Rows.laid_math_bits_deBruijn32tab))).modify 9 (layC (tabC Rows.laid_math_bits_deBruijn64tab))) }
end Go.Proofs.YtfcgdbmoncnibaaGreatDoor
namespace Go.Proofs.YtfcgdbmoncnibaaGreatDoor
open Go.ChangeShapes Go.WideShapes Go.ChangeAt Go.RowKit
set_option linter.unusedVariables false
set_option maxRecDepth 100000 in
theorem PrinterInverse_open {H : Type} {enc : TypeId × Value → H} (W : World) (base : Nat) (args : List Value) (ds : List (DataW H)) (p : List MemPlace) (hval : ∀ (j : Nat) t v, Tryz.f8.params.toList[j]? = some t → args[j]? = some v → Value.okWide Tryz.prog W .any base t v)
  (hA : DataW.TrodAll enc Tryz.prog W 0 (fun _ => true) true Tryz.f8.params.toList args ds p) (hG : GP W ∧ GF W) : Fn Tryz.prog 8 args W fun v w' => v = .bool true ∧ Ext W w' := by
 rw [Tryz.params8] at hA hval
 obtain ⟨v0, _, d0, _, p0, q0, rfl, rfl, rfl, h0, r0⟩ := trodAll_cons hA
 obtain ⟨v1, _, d1, _, p1, q1, rfl, rfl, rfl, h1, r1⟩ := trodAll_cons r0
 obtain ⟨v2, _, d2, _, p2, q2, rfl, rfl, rfl, h2, r2⟩ := trodAll_cons r1
 obtain ⟨rfl, rfl, rfl⟩ := trodAll_nil r2
 obtain ⟨f, hf⟩ := arg_fml (hval 0 _ v0 rfl rfl) h0
 obtain ⟨cs, s, rfl, hs⟩ := arg_spc (hval 1 _ v1 rfl rfl) h1
 obtain ⟨ce, e, rfl, he⟩ := arg_edt (hval 2 _ v2 rfl rfl) h2
 exact inverse_ok W v0 f cs s ce e hf hs he hG.1 hG.2
theorem PrinterInverse_laidMet (os : Os) : laidMet Tryz.prog laidL ((laidWorld os).forCall (fun _ _ => 0) ⟨#[], #[.agg #[.int .i64 0, AK [], .int .i64 0, .int .i64 0, .slice none 0 0], .agg #[.slice none 0 0, .slice none 0 0], .agg #[.int .i64 0, AK [], AK [], .int .i64 0, .int .i64 0, AK [], .int .i64 0, .int .i64 0, .slice none 0 0]], []⟩).memory := laidMet_of_run' 8 (by kernel_rfl) (by kernel_rfl)
theorem PrinterInverse_reads (os : Os) {H : Type} (enc : TypeId × Value → H) : ∃ places, DataW.whole enc Tryz.prog ((laidWorld os).forCall (fun _ _ => 0) ⟨#[], #[.agg #[.int .i64 0, AK [], .int .i64 0, .int .i64 0, .slice none 0 0], .agg #[.slice none 0 0, .slice none 0 0], .agg #[.int .i64 0, AK [], AK [], .int .i64 0, .int .i64 0, AK [], .int .i64 0, .int .i64 0, .slice none 0 0]], []⟩).memory Tryz.f8.params.toList Rows.printerInverseSpec.vars false #[.agg #[.int .i64 0, AK [], .int .i64 0, .int .i64 0, .slice none 0 0], .agg #[.slice none 0 0, .slice none 0 0], .agg #[.int .i64 0, AK [], AK [], .int .i64 0, .int .i64 0, AK [], .int .i64 0, .int .i64 0, .slice none 0 0]].toList 8 = some ([.agg [.lit (.int .i64 0), .lit (.string []), .lit (.int .i64 0), .lit (.int .i64 0), .nil], .agg [.nil, .nil], .agg [.lit (.int .i64 0), .agg [.lit (.string []), .lit (.string []), .lit (.int .i64 0), .agg [.lit (.int .i64 0), .lit (.string []), .lit (.int .i64 0), .lit (.int .i64 0), .nil]]]], [], places) := ⟨[], by kernel_rfl⟩
set_option maxRecDepth 100000 in
theorem PrinterInverse_lifted (os : Os) (started : os.Started) (H : Type) (enc : TypeId × Value → H) (F : Stop.Interp) :
  ReturnsInHanded {} Tryz.checked os 8 .any ((OpenSpec.ofChange Rows.printerInverseSpec).preRow enc Tryz.prog Tryz.f8 Rows.printerInverseRow.domain false Rows.printerInverseRow.laid) (((OpenSpec.ofChange Rows.printerInverseSpec).at F).post enc Tryz.prog Tryz.f8 false true false false) := by
 obtain ⟨places, hx⟩ := PrinterInverse_reads os enc
 exact law_liftedL started F (by kernel_rfl) Tryz.func8
  (witness_row_atRef (enc := enc) (C := Tryz.checked) false (laidWorld os) #[.agg #[.int .i64 0, AK [], .int .i64 0, .int .i64 0, .slice none 0 0], .agg #[.slice none 0 0, .slice none 0 0], .agg #[.int .i64 0, AK [], AK [], .int .i64 0, .int .i64 0, AK [], .int .i64 0, .int .i64 0, .slice none 0 0]] rfl (by kernel_rfl) (by kernel_rfl) (by kernel_rfl)
   (OpenSpec.preRow_of_cond 8 hx (by kernel_rfl) (fun k hk => by cases hk) (by kernel_rfl) (PrinterInverse_laidMet os))) rfl (by kernel_rfl) (by kernel_rfl)
  (fun ds h => by
   match ds, h with
   | [d1, d2, d3], _ => rfl) PrinterInverse_open
theorem PrinterInverse_said : Rows.PrinterInverseSaid :=
 OpenClaim.holds_of_cond 8 Tryz.f8 rfl rfl rfl rfl rfl rfl rfl ⟨rfl, rfl, rfl, rfl, rfl⟩ rfl rfl rfl rfl rfl (by kernel_rfl) Tryz.func8 (by kernel_rfl)
  (of_decide_eq_true (by kernel_rfl)) (by unfold Func.isWrapper; first | (rw [if_pos (by decide +kernel)]; kernel_rfl) | (rw [if_neg (by decide +kernel)]; exact ⟨rfl, rfl⟩))
  (fun os started H enc _ F => by rw [OpenClaim.pre_eq_preRow]; exact PrinterInverse_lifted os started H enc F)
theorem PrinterInverse_plain (f : FuncId) (fn : Func) (hf : Tryz.pinned.checked.prog.funcNamed "foresight/foresightlaw06.PrinterInverse" = some f) (hfn : Tryz.pinned.checked.prog.funcs[f]? = some fn) :
  true = Tryz.pinned.checked.prog.looks [] ∧ ∀ (j : Nat) t, fn.params[j]? = some t → Tryz.pinned.checked.prog.wantsStandIn t = false := by
 obtain rfl : f = 8 := Option.some.inj ((show Tryz.prog.funcNamed "foresight/foresightlaw06.PrinterInverse" = some 8 by kernel_rfl).symm.trans hf) |>.symm
 obtain rfl : fn = Tryz.f8 := (Option.some.inj (Tryz.func8.symm.trans hfn)).symm
 refine ⟨by kernel_rfl, fun j t ht => ?_⟩
 have hall : (Tryz.f8.params.toList.all fun t => !Tryz.prog.wantsStandIn t) = true := by kernel_rfl
 have := List.all_eq_true.1 hall t (by simpa using Array.mem_of_getElem? ht)
 exact Bool.not_eq_true' _ |>.mp this
theorem PrinterInverse_proved : Rows.PrinterInverseCardSaid :=
 Claim7.holds_tied_plain_at .later [] _ _ _ _ PrinterInverse_said (fun _ h => by cases h) (by kernel_rfl) (fun _ h => by cases h) printerInverse_row_tie rfl ⟨rfl, rfl⟩ (by kernel_rfl) rfl PrinterInverse_plain (by kernel_rfl)
end Go.Proofs.YtfcgdbmoncnibaaGreatDoor
