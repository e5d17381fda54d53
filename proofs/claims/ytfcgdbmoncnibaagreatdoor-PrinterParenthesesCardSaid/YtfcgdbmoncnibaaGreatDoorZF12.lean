/- The printer's laws: the fixed examples answer as they should. The printer's laws: what printing answers, in short. The printer's plain law: the tokens of a formula are parsed to it. The printer's plain law: a formula's tokens are parsed to it, whatever it is. The printer's plain law: what is parsed can be printed, and has been read from enough parentheses. The printer's plain law: specifications and edits. The printer's plain law: what the tokens of specifications and edits are parsed to. The printer's plain law: what is parsed is no greater than its tokens. The reference: names. Conditions: none. -/
import Derived.Test.YtfcgdbmoncnibaaGreatDoorZF11

namespace Go.Proofs.YtfcgdbmoncnibaaGreatDoor
open Go.RowKit
set_option linter.unusedVariables false
theorem GP.size {w : World} (h : GP w) : 10 ≤ w.heap.size := h.gk.gv.size
def hdT : List UInt8 := [105, 110, 112, 117, 116, 32, 114, 59, 10, 111, 117, 116, 112, 117, 116, 32, 103, 58, 32, 51, 59, 10, 112, 97, 114, 116, 32, 112, 32, 123, 10, 32, 32, 103, 117, 97, 114, 97, 110, 116, 101, 101, 32, 111, 110, 101, 58, 32, 71, 32, 40, 114, 32, 45, 62, 32, 70, 91, 51, 93, 32, 103, 41, 59, 10, 32, 32, 97, 115, 115, 117, 109, 101, 32, 116, 119, 111, 58, 32, 116, 114, 117, 101, 59, 10, 125, 10, 112, 97, 114, 116, 32, 113, 32, 123, 10, 32, 32, 103, 117, 97, 114, 97, 110, 116, 101, 101, 32, 111, 110, 101, 58, 32, 103, 61, 50, 59, 10, 125, 10]
theorem hd_S : PRes .spec hdT (.ok exS) := PRes.of (n := 200) (by kernel_rfl)
theorem hd_pS : (if okSpc exS then spcT exS else []) = hdT := by kernel_rfl
theorem made15 : (madeCells (Value.agg #[.int .i64 0, AM [], .int .i64 0, .int .i64 0, .slice none 0 0]).cells (3 * 5)).toList = Cc ++ (Cc ++ Cc) := by kernel_rfl
def hdA : Fml := isF [97] 1
def hdB : Fml := isF [98] 1
def hd1 : Fml := ⟨9, [], 0, 0, [⟨9, [], 0, 0, [hdA, isF [98] 0]⟩, ⟨4, [], 0, 0, [isF [99] 2]⟩]⟩
def hd2 : Fml := ⟨5, [], 0, 0, [hdA, ⟨5, [], 0, 0, [hdB, isF [99] 1]⟩, ⟨6, [], 0, 0, [hdA, hdB]⟩]⟩
def hd3 : Fml := ⟨16, [], 1, 0, [⟨15, [], 1, 0, [hdA]⟩, ⟨17, [], 0, 0, [hdA, hdB]⟩]⟩
def hd4 : Fml := ⟨7, [], 0, 0, [⟨7, [], 0, 0, [hdA, hdB]⟩, ⟨7, [], 0, 0, [hdA, hdB]⟩]⟩
theorem hd_p1 : (if okF hd1 then prF 0 hd1 else []) = [40, 97, 32, 85, 32, 98, 61, 48, 41, 32, 85, 32, 33, 99, 61, 50] := by kernel_rfl
theorem hd_p2 : (if okF hd2 then prF 0 hd2 else []) = [97, 32, 38, 32, 40, 98, 32, 38, 32, 99, 41, 32, 38, 32, 40, 97, 32, 124, 32, 98, 41] := by kernel_rfl
theorem hd_p3 : (if okF hd3 then prF 0 hd3 else []) = [90, 32, 97, 32, 83, 91, 49, 93, 32, 97, 32, 84, 91, 48, 93, 32, 98] := by kernel_rfl
theorem hd_p4 : (if okF hd4 then prF 0 hd4 else []) = [40, 97, 32, 45, 62, 32, 98, 41, 32, 45, 62, 32, 97, 32, 45, 62, 32, 98] := by kernel_rfl
theorem hd_p5 : (if okF (isF [71] 1) then prF 0 (isF [71] 1) else []) = [] := by kernel_rfl
theorem hd_p6 : (if okE ⟨2, ⟨[], [103], 0, zeroF⟩⟩ then edtT ⟨2, ⟨[], [103], 0, zeroF⟩⟩ else []) = [100, 114, 111, 112, 32, 103] := by kernel_rfl
theorem hd_p7 : (if okE ⟨1, ⟨[113], [111, 110, 101], 2, isF [103] 2⟩⟩ then edtT ⟨1, ⟨[113], [111, 110, 101], 2, isF [103] 2⟩⟩ else []) = [97, 100, 100, 32, 113, 32, 103, 117, 97, 114, 97, 110, 116, 101, 101, 32, 111, 110, 101, 58, 32, 103, 61, 50] := by kernel_rfl
theorem hd_p8 : (if okE ⟨0, ⟨[], [], 0, zeroF⟩⟩ then edtT ⟨0, ⟨[], [], 0, zeroF⟩⟩ else []) = [] := by kernel_rfl
theorem hd_lex : lexM [71, 32, 97] = .ok [⟨1, [71], 0⟩, ⟨1, [97], 2⟩] := by kernel_rfl
set_option maxHeartbeats 3200000 in
set_option maxRecDepth 20000 in
theorem head_ok (w : World) (hG : GP w) (hF : GF w) : Fn Tryz.prog 10 [] w fun v w' => v = .bool true ∧ Ext w w' := by
 refine Ad Tryz.func10 rfl Tryz.ntmps10 (Nat.le_of_ble_eq_true rfl) (by kernel_rfl) ?_
 repeat refine nx rfl ?_
 refine AA (AB (AC rfl ?_))
 repeat refine nx rfl ?_
 refine AA ?_
 refine AS (example_ok w) rfl ?_
 rintro _ w1 ⟨cS, rfl, fS, k1⟩
 refine BE (cs := cS) rfl (spcR.len fS) (by rfl) (spcR.one fS) (fun w2 n2 => ?_)
 have bS := n2.blk
 have k2 : Ext w w2 := k1.trans n2.keep
 replace fS := spcR.ext fS n2.keep
 repeat refine nx rfl ?_
 refine AA (AB (AY rfl ?_))
 repeat refine nx rfl ?_
 refine AA (AY rfl ?_)
 refine AS (parseU_S w2 hdT (hG.ext k2).gk) rfl ?_
 rintro _ w3 ⟨o, cT, hp, rfl, k3, fT, _⟩
 obtain rfl := hp.det hd_S
 rw [show Out.errno (Except.ok exS : Out Spc) = 0 from rfl, show Out.loc (Except.ok exS : Out Spc) = -1 from rfl]
 replace fT := spcR.mono (ok' := BH) fT fun _ _ => trivial
 refine Bn rfl (Af rfl rfl (Af rfl rfl (Af rfl rfl ?_)))
 refine BE (cs := cT) rfl (spcR.len fT) (by rfl) (spcR.one fT) (fun w4 n4 => ?_)
 have bT := n4.blk
 have k24 := k3.trans n4.keep
 have k4 := k2.trans k24
 replace bS := bS.keep k24 (by simp)
 replace fS := spcR.ext fS k24
 replace fT := spcR.ext fT n4.keep
 refine AB (AH rfl (AB (AH rfl ?_)))
 repeat refine nx rfl ?_
 replace fT : spcR.fits BH w4 cT exS := fT
 clear hp
 refine AA ?_
 refine AS (ris_ok w4 [97] 1) rfl ?_
 rintro va w5 ⟨k5, fa⟩
 obtain ⟨a0, a1, a2, a3, a4, rfl, oa⟩ := FV.five fa
 refine BE (cs := [a0, a1, a2, a3, a4]) rfl rfl (by rfl) oa (fun w6 n6 => ?_)
 have ba := n6.blk
 have k46 := k5.trans n6.keep
 replace fa : FV w6 _ hdA := fa.ext n6.keep
 repeat refine nx rfl ?_
 refine AA ?_
 refine AS (ris_ok w6 [98] 1) rfl ?_
 rintro vb w7 ⟨k7, fb⟩
 obtain ⟨b0, b1, b2, b3, b4, rfl, ob⟩ := FV.five fb
 refine BE (cs := [b0, b1, b2, b3, b4]) rfl rfl (by rfl) ob (fun w8 n8 => ?_)
 have bb := n8.blk
 have k68 := k7.trans n8.keep
 have k48 := k46.trans k68
 replace fb : FV w8 _ hdB := fb.ext n8.keep
 replace fa := fa.ext k68
 replace ba := ba.keep k68 (by simp)
 replace bS := bS.keep k48 (by simp)
 replace bT := bT.keep k48 (by simp)
 replace fS := spcR.ext fS k48
 replace fT := spcR.ext fT k48
 have k8 := k4.trans k48
 repeat refine nx rfl ?_
 refine AA (AW rfl bS (spcR.len fS) ?_)
 refine AS (print_S w8 exS cS fS (hG.ext k8) (of_decide_eq_true (by kernel_rfl)) (hG.ext k8).size (fun _ => of_decide_eq_true (by kernel_rfl))) rfl ?_
 rintro _ w9 ⟨rfl, k9⟩
 rw [hd_pS]
 refine AY rfl ?_
 refine CK rfl rfl (fun _ => ?_) (fun h => absurd rfl h)
 refine AC rfl (AE rfl (AH rfl (AE rfl (Av rfl rfl (by omega) (AO rfl (AC rfl (AC rfl (AE rfl (AH rfl (AE rfl (Av rfl rfl (by omega) (AO rfl (AC rfl (AC rfl ?_))))))))))))))
 refine AE rfl (AW rfl (bT.keep k9 (by simp)) (spcR.len fT) ?_)
 refine AE rfl (AW rfl (bS.keep k9 (by simp)) (spcR.len fS) ?_)
 refine AE rfl (AS (sameSpec_ok w9 _ _ _ _ (spcR.ext fT k9) (spcR.ext fS k9)) rfl ?_)
 rintro _ wA ⟨b, rfl, hb, kA⟩
 obtain rfl : b = true := hb.2 rfl
 refine AO rfl (AC rfl (AB (AC rfl ?_)))
 repeat refine nx rfl ?_
 have kA8 := k9.trans kA
 have kwA := k8.trans kA8
 replace fa := fa.ext kA8
 replace fb := fb.ext kA8
 replace ba := ba.keep kA8 (by simp)
 replace bb := bb.keep kA8 (by simp)
 replace bS := bS.keep kA8 (by simp)
 replace fS := spcR.ext fS kA8
 clear bT fT hb k9 kA n2 n4 n6 n8 k1 k2 k3 k24 k4 k5 k46 k7 k68 k48 k8
 refine A7 (.read 0 (.alt 1 (.alt 2 (.alt 3 (.alt 4 (.alt 5 (.alt 6 (.read 7 (.read 8 (.read 9 (.read 10 (.read 13 (.read 14 (.alt 11 (.alt 12 (.alt 15 (.alt 16 (.alt 17 (.alt 18 (.read 19 (.read 20 (.read 21 .done))) .stop) .stop) .stop) .stop) .stop) .stop))))))) .stop) .stop) .stop) .stop) .stop) .stop)) BA (by kernel_rfl) (fun wd kd ed => ⟨Ext wd, ?_, ?_⟩)
 ·exact Ext.refl _
 have ca : ∀ W, Ext wd W → Cells W w5.heap.size 0 [a0, a1, a2, a3, a4] := fun W e => ((ba.keep kd (by simp)).keep e (by simp)).cells
 have cb : ∀ W, Ext wd W → Cells W w7.heap.size 0 [b0, b1, b2, b3, b4] := fun W e => ((bb.keep kd (by simp)).keep e (by simp)).cells
 have fad := fa.ext kd
 have fbd := fb.ext kd
 have kwd := kwA.trans kd
 ((apply D_R rfl rfl; (intro W hW; refine AZ rfl (by rfl) (ca W hW) ?_; exact AI ⟨rfl, rfl, rfl⟩)))
 refine D_E rfl ?_
 refine AS (ris_ok wd [98] 0) rfl ?_
 rintro vB x1 ⟨e1, fB⟩
 refine AI ⟨Ext wd, fun _ e => e, e1, ?_⟩
 refine D_E rfl ?_
 refine AS (Cy x1 9 _ _ hdA _ (fad.ext e1) fB) rfl ?_
 rintro vU x2 ⟨e2, fU⟩
 have h2 := e1.trans e2
 refine AI ⟨Ext wd, fun _ e => e, h2, ?_⟩
 refine D_E rfl ?_
 refine AS (ris_ok x2 [99] 2) rfl ?_
 rintro vC x3 ⟨e3, fC⟩
 have h3 := h2.trans e3
 refine AI ⟨Ext wd, fun _ e => e, h3, ?_⟩
 refine D_E rfl ?_
 refine AS (rone_ok x3 4 _ _ fC) rfl ?_
 rintro vN x4 ⟨e4, fN⟩
 have h4 := h3.trans e4
 refine AI ⟨Ext wd, fun _ e => e, h4, ?_⟩
 refine D_E rfl ?_
 refine AS (Cy x4 9 _ _ _ _ ((fU.ext e3).ext e4) fN) rfl ?_
 rintro vV x5 ⟨e5, fV⟩
 obtain ⟨p0, p1, p2, p3, p4, rfl, op⟩ := FV.five fV
 have h5 := h4.trans e5
 refine AI ⟨Ext wd, fun _ e => e, h5, ?_⟩
 refine D_E rfl ?_
 refine AS (print_F x5 hd1 _ ⟨rfl, fV⟩ (hG.ext (kwd.trans h5)) (of_decide_eq_true (by kernel_rfl)) (hG.ext (kwd.trans h5)).size (fun _ => of_decide_eq_true (by kernel_rfl))) rfl ?_
 rintro _ x6 ⟨rfl, e6⟩
 rw [hd_p1]
 have h6 := h5.trans e6
 refine AI ⟨Ext wd, fun _ e => e, h6, ?_⟩
 ((refine D_seql rfl rfl rfl rfl (fun hc => ?_) (fun hc => ?_)) <;> refine D_R rfl rfl (fun W hW => AC rfl Z3) ?_ <;> (first | refine Ao rfl rfl rfl rfl ?_ | (apply D_R rfl rfl; (intro W hW; (refine AE rfl ?_; refine AZ rfl (by rfl) (ca W hW) ?_); exact AI ⟨rfl, rfl, rfl⟩))) <;> (first | refine Ao rfl rfl rfl rfl ?_ | (apply D_R rfl rfl; (intro W hW; (refine AE rfl ?_; refine AZ rfl (by rfl) (cb W hW) ?_); exact AI ⟨rfl, rfl, rfl⟩))) <;> (first | refine Ao rfl rfl rfl rfl ?_ | (apply D_R rfl rfl; (intro W hW; (refine AE rfl ?_; refine AZ rfl (by rfl) (ca W hW) ?_); exact AI ⟨rfl, rfl, rfl⟩))) <;> (first | refine Ao rfl rfl rfl rfl ?_ | (apply D_R rfl rfl; (intro W hW; (refine AE rfl ?_; refine AZ rfl (by rfl) (cb W hW) ?_); exact AI ⟨rfl, rfl, rfl⟩))))
 rotate_left
 ·exact absurd rfl (by assumption)
 refine D_E rfl ?_
 refine AE rfl (AS (ris_ok x6 [99] 1) rfl ?_)
 rintro vC2 x7 ⟨e7, fC2⟩
 have h7 := h6.trans e7
 refine AI ⟨Ext wd, fun _ e => e, h7, ?_⟩
 refine D_E rfl ?_
 refine AE rfl (AS (Cy x7 5 _ _ hdB _ (fbd.ext h7) fC2) rfl ?_)
 rintro vD x8 ⟨e8, fD⟩
 obtain ⟨r0, r1, r2, r3, r4, rfl, or⟩ := FV.five fD
 have h8 := h7.trans e8
 refine AI ⟨Ext wd, fun _ e => e, h8, ?_⟩
 refine D_E rfl ?_
 refine AE rfl (AS (Cy x8 6 _ _ hdA hdB (fad.ext h8) (fbd.ext h8)) rfl ?_)
 rintro vE x9 ⟨e9, fE⟩
 obtain ⟨s0, s1, s2, s3, s4, rfl, os⟩ := FV.five fE
 have h9 := h8.trans e9
 refine AI ⟨Ext wd, fun _ e => e, h9, ?_⟩
 refine D_E rfl ?_
 (refine AE rfl ?_; refine AT (out := [a0, a1, a2, a3, a4, r0, r1, r2, r3, r4, s0, s1, s2, s3, s4]) rfl (by omega) (by rw [made15]; rfl) (fun xa ma => ?_))
 obtain ⟨Sa, Fa⟩ := FV.fresh (L := [[a0, a1, a2, a3, a4], [r0, r1, r2, r3, r4], [s0, s1, s2, s3, s4]]) ma (FsAt.cons (fad.ext h9) rfl (FsAt.two (fD.ext e9) rfl fE rfl)) (by simp)
 have ha := h9.trans ma.keep
 refine AI ⟨Ext wd, fun _ e => e, ha, ?_⟩
 refine D_E rfl ?_
 refine AE rfl (AS (rop_ok xa 5 BH _ _ _ [hdA, ⟨5, [], 0, 0, [hdB, isF [99] 1]⟩, ⟨6, [], 0, 0, [hdA, hdB]⟩] Sa Fa) rfl ?_)
 rintro vG xb ⟨eb, fG⟩
 obtain ⟨u0, u1, u2, u3, u4, rfl, ou⟩ := FV.five fG
 have hb := ha.trans eb
 refine AI ⟨Ext wd, fun _ e => e, hb, ?_⟩
 refine D_E rfl ?_
 refine AE rfl (AS (print_F xb hd2 _ ⟨rfl, fG⟩ (hG.ext (kwd.trans hb)) (of_decide_eq_true (by kernel_rfl)) (hG.ext (kwd.trans hb)).size (fun _ => of_decide_eq_true (by kernel_rfl))) rfl ?_)
 rintro _ xc ⟨rfl, ec⟩
 rw [hd_p2]
 have hC := hb.trans ec
 refine AI ⟨Ext wd, fun _ e => e, hC, ?_⟩
 ((refine D_seql rfl rfl rfl rfl (fun hc => ?_) (fun hc => ?_)) <;> refine D_R rfl rfl (fun W hW => AO rfl (AC rfl Z3)) (D_R rfl rfl (fun W hW => AB (AC rfl Z3)) (Ay ?_)))
 rotate_left
 ·exact absurd rfl (by assumption)
 repeat refine nx rfl ?_
 have kAc := kd.trans hC
 have kwc := kwA.trans kAc
 replace fa := fa.ext kAc
 replace fb := fb.ext kAc
 replace ba := ba.keep kAc (by simp)
 replace bb := bb.keep kAc (by simp)
 replace bS := bS.keep kAc (by simp)
 replace fS := spcR.ext fS kAc
 clear ca cb fad fbd kwd h2 h3 h4 h5 h6 h7 h8 h9 ha hb Sa Fa ma fB fU fC fN fV fC2 fD fE fG kd
 refine CV (α := Unit) (fun _ => [(1, pt w1.heap.size), (6, pt w5.heap.size), (8, .bool true), (9, .bool true), (10, .bool true)]) (fun _ W => Ext xc W) ?_ ?_
 ·refine A7 (.read 0 (.read 3 (.read 4 (.alt 1 (.alt 2 (.alt 5 (.alt 6 (.alt 7 (.alt 8 (.alt 9 (.read 10 (.read 11 (.read 12 (.read 13 (.read 15 (.read 16 (.alt 14 (.alt 17 (.alt 18 (.alt 19 (.read 20 (.read 21 (.read 22 .done))) .stop) .stop) .stop) .stop))))))) .stop) .stop) .stop) .stop) .stop) (.alt 5 (.alt 2 (.alt 6 (.alt 7 (.alt 8 (.alt 9 (.read 10 (.read 11 (.read 12 (.read 13 (.read 15 (.read 16 (.alt 14 (.alt 17 (.alt 18 (.alt 19 (.read 20 (.read 21 (.read 22 .done))) .stop) .stop) .stop) .stop))))))) .stop) .stop) .stop) .stop) .stop) .stop)) (.alt 5 (.alt 1 (.alt 2 (.alt 6 (.alt 7 (.alt 8 (.alt 9 (.read 10 (.read 11 (.read 12 (.read 13 (.read 15 (.read 16 (.alt 14 (.alt 17 (.alt 18 (.alt 19 (.read 20 (.read 21 (.read 22 .done))) .stop) .stop) .stop) .stop))))))) .stop) .stop) .stop) .stop) .stop) .stop) .stop))))) BA (by kernel_rfl) (fun wd kd ed => ⟨Ext wd, ?_, ?_⟩)
  ·exact Ext.refl _
  have ca : ∀ W, Ext wd W → Cells W w5.heap.size 0 [a0, a1, a2, a3, a4] := fun W e => ((ba.keep kd (by simp)).keep e (by simp)).cells
  have cb : ∀ W, Ext wd W → Cells W w7.heap.size 0 [b0, b1, b2, b3, b4] := fun W e => ((bb.keep kd (by simp)).keep e (by simp)).cells
  have fad := fa.ext kd
  have fbd := fb.ext kd
  have kwd := kwc.trans kd
  have er : Ext wd wd := Ext.refl _
  ((apply D_R rfl rfl; (intro W hW; refine AZ rfl (by rfl) (ca W hW) ?_; exact Z3)) <;> (apply D_R rfl rfl; (intro W hW; refine AZ rfl (by rfl) (ca W hW) ?_; exact Z3)) <;> (apply D_R rfl rfl; (intro W hW; refine AZ rfl (by rfl) (cb W hW) ?_; exact Z3)))
  refine D_A rfl ?_ ?_
  ·refine AT (out := [a0, a1, a2, a3, a4]) rfl (by omega) (by rw [made5]; rfl) (fun y1 m1 => ?_)
   have e1 := er.trans m1.keep
   obtain ⟨S1, F1⟩ := FV.fresh (L := [[a0, a1, a2, a3, a4]]) m1 (FsAt.one (fad.ext er) rfl) (by simp)
   try replace S5 := S5.ext m1.keep
   try replace F5 := F5.ext m1.keep
   refine AI ⟨Ext wd, fun _ e => e, e1, ?_⟩
   refine D_A rfl ?_ ?_
   ·refine AS (rlate_ok y1 15 1 BH _ _ _ [hdA] S1 F1) rfl ?_
    rintro vY y2 ⟨q2, fY⟩
    obtain ⟨r0, r1, r2, r3, r4, rfl, or⟩ := FV.five fY
    have e2 := e1.trans q2
    try replace S5 := S5.ext q2
    try replace F5 := F5.ext q2
    refine AI ⟨Ext wd, fun _ e => e, e2, ?_⟩
    refine D_E rfl ?_
    refine AT (out := [a0, a1, a2, a3, a4, b0, b1, b2, b3, b4]) rfl (by omega) (by rw [made10]; rfl) (fun y5 m5 => ?_)
    have e5 := e2.trans m5.keep
    obtain ⟨S5, F5⟩ := FV.fresh (L := [[a0, a1, a2, a3, a4], [b0, b1, b2, b3, b4]]) m5 (FsAt.two (fad.ext e2) rfl (fbd.ext e2) rfl) (by simp)
    try replace S1 := S1.ext m5.keep
    try replace F1 := F1.ext m5.keep
    try replace fY := fY.ext m5.keep
    refine AI ⟨Ext wd, fun _ e => e, e5, ?_⟩
    refine D_E rfl ?_
    refine AS (rlate_ok y5 17 0 BH _ _ _ [hdA, hdB] S5 F5) rfl ?_
    rintro vT y6 ⟨q6, fT⟩
    obtain ⟨s0, s1, s2, s3, s4, rfl, os⟩ := FV.five fT
    have e6 := e5.trans q6
    replace fY := fY.ext q6
    refine AI ⟨Ext wd, fun _ e => e, e6, ?_⟩
    refine D_E rfl ?_
    refine AT (out := [r0, r1, r2, r3, r4, s0, s1, s2, s3, s4]) rfl (by omega) (by rw [made10]; rfl) (fun y7 m7 => ?_)
    have e7 := e6.trans m7.keep
    obtain ⟨S7, F7⟩ := FV.fresh (L := [[r0, r1, r2, r3, r4], [s0, s1, s2, s3, s4]]) m7 (FsAt.two fY rfl fT rfl) (by simp)
    refine AI ⟨Ext wd, fun _ e => e, e7, ?_⟩
    refine D_E rfl ?_
    refine AS (rlate_ok y7 16 1 BH _ _ _ [⟨15, [], 1, 0, [hdA]⟩, ⟨17, [], 0, 0, [hdA, hdB]⟩] S7 F7) rfl ?_
    rintro vS y8 ⟨q8, fU⟩
    obtain ⟨u0, u1, u2, u3, u4, rfl, ou⟩ := FV.five fU
    have e8 := e7.trans q8
    refine AI ⟨Ext wd, fun _ e => e, e8, ?_⟩
    refine D_E rfl ?_
    refine AS (print_F y8 hd3 _ ⟨rfl, fU⟩ (hG.ext (kwd.trans e8)) (of_decide_eq_true (by kernel_rfl)) (hG.ext (kwd.trans e8)).size (fun _ => of_decide_eq_true (by kernel_rfl))) rfl ?_
    rintro _ y9 ⟨rfl, q9⟩
    rw [hd_p3]
    have e9 := e8.trans q9
    refine AI ⟨Ext wd, fun _ e => e, e9, ?_⟩
    ((refine D_seql rfl rfl rfl rfl (fun hc => ?_) (fun hc => ?_)) <;> refine D_R rfl rfl (fun W hW => AC rfl Z3) ?_ <;> (first | refine Ao rfl rfl rfl rfl ?_ | (apply D_R rfl rfl; (intro W hW; (refine AE rfl ?_; refine AZ rfl (by rfl) (ca W hW) ?_); exact AI ⟨rfl, rfl, rfl⟩))) <;> (first | refine Ao rfl rfl rfl rfl ?_ | (apply D_R rfl rfl; (intro W hW; (refine AE rfl ?_; refine AZ rfl (by rfl) (cb W hW) ?_); exact AI ⟨rfl, rfl, rfl⟩))) <;> (first | refine Ao rfl rfl rfl rfl ?_ | (apply D_R rfl rfl; (intro W hW; (refine AE rfl ?_; refine AZ rfl (by rfl) (ca W hW) ?_); exact AI ⟨rfl, rfl, rfl⟩))) <;> (first | refine Ao rfl rfl rfl rfl ?_ | (apply D_R rfl rfl; (intro W hW; (refine AE rfl ?_; refine AZ rfl (by rfl) (cb W hW) ?_); exact AI ⟨rfl, rfl, rfl⟩))))
    rotate_left
    ·exact absurd rfl (by assumption)
    refine D_E rfl ?_
    refine AE rfl (AS (Cy y9 7 _ _ hdA hdB (fad.ext e9) (fbd.ext e9)) rfl ?_)
    rintro vI ya ⟨qa, fI⟩
    have ea := e9.trans qa
    refine AI ⟨Ext wd, fun _ e => e, ea, ?_⟩
    refine D_E rfl ?_
    refine AE rfl (AS (Cy ya 7 _ _ hdA hdB (fad.ext ea) (fbd.ext ea)) rfl ?_)
    rintro vJ yb ⟨qb, fJ⟩
    have eb := ea.trans qb
    refine AI ⟨Ext wd, fun _ e => e, eb, ?_⟩
    refine D_E rfl ?_
    refine AE rfl (AS (Cy yb 7 _ _ _ _ (fI.ext qb) fJ) rfl ?_)
    rintro vK yc ⟨qc, fK⟩
    obtain ⟨t0, t1, t2, t3, t4, rfl, ot⟩ := FV.five fK
    have ec := eb.trans qc
    refine AI ⟨Ext wd, fun _ e => e, ec, ?_⟩
    refine D_E rfl ?_
    refine AE rfl (AS (print_F yc hd4 _ ⟨rfl, fK⟩ (hG.ext (kwd.trans ec)) (of_decide_eq_true (by kernel_rfl)) (hG.ext (kwd.trans ec)).size (fun _ => of_decide_eq_true (by kernel_rfl))) rfl ?_)
    rintro _ yd ⟨rfl, qd⟩
    rw [hd_p4]
    have ed := ec.trans qd
    refine AI ⟨Ext wd, fun _ e => e, ed, ?_⟩
    ((refine D_seql rfl rfl rfl rfl (fun hc => ?_) (fun hc => ?_)) <;> refine D_R rfl rfl (fun W hW => AO rfl (AC rfl Z3)) (D_R rfl rfl (fun W hW => AB (AC rfl Z3)) (Ay ?_)))
    rotate_left
    ·exact absurd rfl (by assumption)
    repeat refine nx rfl ?_
    exact Ar () ⟨rfl, rfl, rfl, rfl, rfl, trivial⟩ (kd.trans ed)
   ·refine D_E rfl ?_
    refine AT (out := [a0, a1, a2, a3, a4, b0, b1, b2, b3, b4]) rfl (by omega) (by rw [made10]; rfl) (fun y5 m5 => ?_)
    have e5 := e1.trans m5.keep
    obtain ⟨S5, F5⟩ := FV.fresh (L := [[a0, a1, a2, a3, a4], [b0, b1, b2, b3, b4]]) m5 (FsAt.two (fad.ext e1) rfl (fbd.ext e1) rfl) (by simp)
    try replace S1 := S1.ext m5.keep
    try replace F1 := F1.ext m5.keep
    try replace fY := fY.ext m5.keep
    refine AI ⟨Ext wd, fun _ e => e, e5, ?_⟩
    refine D_E rfl ?_
    refine AS (rlate_ok y5 15 1 BH _ _ _ [hdA] S1 F1) rfl ?_
    rintro vY y2 ⟨q2, fY⟩
    obtain ⟨r0, r1, r2, r3, r4, rfl, or⟩ := FV.five fY
    have e2 := e5.trans q2
    try replace S5 := S5.ext q2
    try replace F5 := F5.ext q2
    refine AI ⟨Ext wd, fun _ e => e, e2, ?_⟩
    refine D_E rfl ?_
    refine AS (rlate_ok y2 17 0 BH _ _ _ [hdA, hdB] S5 F5) rfl ?_
    rintro vT y6 ⟨q6, fT⟩
    obtain ⟨s0, s1, s2, s3, s4, rfl, os⟩ := FV.five fT
    have e6 := e2.trans q6
    replace fY := fY.ext q6
    refine AI ⟨Ext wd, fun _ e => e, e6, ?_⟩
    refine D_E rfl ?_
    refine AT (out := [r0, r1, r2, r3, r4, s0, s1, s2, s3, s4]) rfl (by omega) (by rw [made10]; rfl) (fun y7 m7 => ?_)
    have e7 := e6.trans m7.keep
    obtain ⟨S7, F7⟩ := FV.fresh (L := [[r0, r1, r2, r3, r4], [s0, s1, s2, s3, s4]]) m7 (FsAt.two fY rfl fT rfl) (by simp)
    refine AI ⟨Ext wd, fun _ e => e, e7, ?_⟩
    refine D_E rfl ?_
    refine AS (rlate_ok y7 16 1 BH _ _ _ [⟨15, [], 1, 0, [hdA]⟩, ⟨17, [], 0, 0, [hdA, hdB]⟩] S7 F7) rfl ?_
    rintro vS y8 ⟨q8, fU⟩
    obtain ⟨u0, u1, u2, u3, u4, rfl, ou⟩ := FV.five fU
    have e8 := e7.trans q8
    refine AI ⟨Ext wd, fun _ e => e, e8, ?_⟩
    refine D_E rfl ?_
    refine AS (print_F y8 hd3 _ ⟨rfl, fU⟩ (hG.ext (kwd.trans e8)) (of_decide_eq_true (by kernel_rfl)) (hG.ext (kwd.trans e8)).size (fun _ => of_decide_eq_true (by kernel_rfl))) rfl ?_
    rintro _ y9 ⟨rfl, q9⟩
    rw [hd_p3]
    have e9 := e8.trans q9
    refine AI ⟨Ext wd, fun _ e => e, e9, ?_⟩
    ((refine D_seql rfl rfl rfl rfl (fun hc => ?_) (fun hc => ?_)) <;> refine D_R rfl rfl (fun W hW => AC rfl Z3) ?_ <;> (first | refine Ao rfl rfl rfl rfl ?_ | (apply D_R rfl rfl; (intro W hW; (refine AE rfl ?_; refine AZ rfl (by rfl) (ca W hW) ?_); exact AI ⟨rfl, rfl, rfl⟩))) <;> (first | refine Ao rfl rfl rfl rfl ?_ | (apply D_R rfl rfl; (intro W hW; (refine AE rfl ?_; refine AZ rfl (by rfl) (cb W hW) ?_); exact AI ⟨rfl, rfl, rfl⟩))) <;> (first | refine Ao rfl rfl rfl rfl ?_ | (apply D_R rfl rfl; (intro W hW; (refine AE rfl ?_; refine AZ rfl (by rfl) (ca W hW) ?_); exact AI ⟨rfl, rfl, rfl⟩))) <;> (first | refine Ao rfl rfl rfl rfl ?_ | (apply D_R rfl rfl; (intro W hW; (refine AE rfl ?_; refine AZ rfl (by rfl) (cb W hW) ?_); exact AI ⟨rfl, rfl, rfl⟩))))
    rotate_left
    ·exact absurd rfl (by assumption)
    refine D_E rfl ?_
    refine AE rfl (AS (Cy y9 7 _ _ hdA hdB (fad.ext e9) (fbd.ext e9)) rfl ?_)
    rintro vI ya ⟨qa, fI⟩
    have ea := e9.trans qa
    refine AI ⟨Ext wd, fun _ e => e, ea, ?_⟩
    refine D_E rfl ?_
    refine AE rfl (AS (Cy ya 7 _ _ hdA hdB (fad.ext ea) (fbd.ext ea)) rfl ?_)
    rintro vJ yb ⟨qb, fJ⟩
    have eb := ea.trans qb
    refine AI ⟨Ext wd, fun _ e => e, eb, ?_⟩
    refine D_E rfl ?_
    refine AE rfl (AS (Cy yb 7 _ _ _ _ (fI.ext qb) fJ) rfl ?_)
    rintro vK yc ⟨qc, fK⟩
    obtain ⟨t0, t1, t2, t3, t4, rfl, ot⟩ := FV.five fK
    have ec := eb.trans qc
    refine AI ⟨Ext wd, fun _ e => e, ec, ?_⟩
    refine D_E rfl ?_
    refine AE rfl (AS (print_F yc hd4 _ ⟨rfl, fK⟩ (hG.ext (kwd.trans ec)) (of_decide_eq_true (by kernel_rfl)) (hG.ext (kwd.trans ec)).size (fun _ => of_decide_eq_true (by kernel_rfl))) rfl ?_)
    rintro _ yd ⟨rfl, qd⟩
    rw [hd_p4]
    have ed := ec.trans qd
    refine AI ⟨Ext wd, fun _ e => e, ed, ?_⟩
    ((refine D_seql rfl rfl rfl rfl (fun hc => ?_) (fun hc => ?_)) <;> refine D_R rfl rfl (fun W hW => AO rfl (AC rfl Z3)) (D_R rfl rfl (fun W hW => AB (AC rfl Z3)) (Ay ?_)))
    rotate_left
    ·exact absurd rfl (by assumption)
    repeat refine nx rfl ?_
    exact Ar () ⟨rfl, rfl, rfl, rfl, rfl, trivial⟩ (kd.trans ed)
  ·refine D_E rfl ?_
   refine AT (out := [a0, a1, a2, a3, a4, b0, b1, b2, b3, b4]) rfl (by omega) (by rw [made10]; rfl) (fun y5 m5 => ?_)
   have e5 := er.trans m5.keep
   obtain ⟨S5, F5⟩ := FV.fresh (L := [[a0, a1, a2, a3, a4], [b0, b1, b2, b3, b4]]) m5 (FsAt.two (fad.ext er) rfl (fbd.ext er) rfl) (by simp)
   try replace S1 := S1.ext m5.keep
   try replace F1 := F1.ext m5.keep
   try replace fY := fY.ext m5.keep
   refine AI ⟨Ext wd, fun _ e => e, e5, ?_⟩
   refine D_E rfl ?_
   refine AT (out := [a0, a1, a2, a3, a4]) rfl (by omega) (by rw [made5]; rfl) (fun y1 m1 => ?_)
   have e1 := e5.trans m1.keep
   obtain ⟨S1, F1⟩ := FV.fresh (L := [[a0, a1, a2, a3, a4]]) m1 (FsAt.one (fad.ext e5) rfl) (by simp)
   try replace S5 := S5.ext m1.keep
   try replace F5 := F5.ext m1.keep
   refine AI ⟨Ext wd, fun _ e => e, e1, ?_⟩
   refine D_E rfl ?_
   refine AS (rlate_ok y1 15 1 BH _ _ _ [hdA] S1 F1) rfl ?_
   rintro vY y2 ⟨q2, fY⟩
   obtain ⟨r0, r1, r2, r3, r4, rfl, or⟩ := FV.five fY
   have e2 := e1.trans q2
   try replace S5 := S5.ext q2
   try replace F5 := F5.ext q2
   refine AI ⟨Ext wd, fun _ e => e, e2, ?_⟩
   refine D_E rfl ?_
   refine AS (rlate_ok y2 17 0 BH _ _ _ [hdA, hdB] S5 F5) rfl ?_
   rintro vT y6 ⟨q6, fT⟩
   obtain ⟨s0, s1, s2, s3, s4, rfl, os⟩ := FV.five fT
   have e6 := e2.trans q6
   replace fY := fY.ext q6
   refine AI ⟨Ext wd, fun _ e => e, e6, ?_⟩
   refine D_E rfl ?_
   refine AT (out := [r0, r1, r2, r3, r4, s0, s1, s2, s3, s4]) rfl (by omega) (by rw [made10]; rfl) (fun y7 m7 => ?_)
   have e7 := e6.trans m7.keep
   obtain ⟨S7, F7⟩ := FV.fresh (L := [[r0, r1, r2, r3, r4], [s0, s1, s2, s3, s4]]) m7 (FsAt.two fY rfl fT rfl) (by simp)
   refine AI ⟨Ext wd, fun _ e => e, e7, ?_⟩
   refine D_E rfl ?_
   refine AS (rlate_ok y7 16 1 BH _ _ _ [⟨15, [], 1, 0, [hdA]⟩, ⟨17, [], 0, 0, [hdA, hdB]⟩] S7 F7) rfl ?_
   rintro vS y8 ⟨q8, fU⟩
   obtain ⟨u0, u1, u2, u3, u4, rfl, ou⟩ := FV.five fU
   have e8 := e7.trans q8
   refine AI ⟨Ext wd, fun _ e => e, e8, ?_⟩
   refine D_E rfl ?_
   refine AS (print_F y8 hd3 _ ⟨rfl, fU⟩ (hG.ext (kwd.trans e8)) (of_decide_eq_true (by kernel_rfl)) (hG.ext (kwd.trans e8)).size (fun _ => of_decide_eq_true (by kernel_rfl))) rfl ?_
   rintro _ y9 ⟨rfl, q9⟩
   rw [hd_p3]
   have e9 := e8.trans q9
   refine AI ⟨Ext wd, fun _ e => e, e9, ?_⟩
   ((refine D_seql rfl rfl rfl rfl (fun hc => ?_) (fun hc => ?_)) <;> refine D_R rfl rfl (fun W hW => AC rfl Z3) ?_ <;> (first | refine Ao rfl rfl rfl rfl ?_ | (apply D_R rfl rfl; (intro W hW; (refine AE rfl ?_; refine AZ rfl (by rfl) (ca W hW) ?_); exact AI ⟨rfl, rfl, rfl⟩))) <;> (first | refine Ao rfl rfl rfl rfl ?_ | (apply D_R rfl rfl; (intro W hW; (refine AE rfl ?_; refine AZ rfl (by rfl) (cb W hW) ?_); exact AI ⟨rfl, rfl, rfl⟩))) <;> (first | refine Ao rfl rfl rfl rfl ?_ | (apply D_R rfl rfl; (intro W hW; (refine AE rfl ?_; refine AZ rfl (by rfl) (ca W hW) ?_); exact AI ⟨rfl, rfl, rfl⟩))) <;> (first | refine Ao rfl rfl rfl rfl ?_ | (apply D_R rfl rfl; (intro W hW; (refine AE rfl ?_; refine AZ rfl (by rfl) (cb W hW) ?_); exact AI ⟨rfl, rfl, rfl⟩))))
   rotate_left
   ·exact absurd rfl (by assumption)
   refine D_E rfl ?_
   refine AE rfl (AS (Cy y9 7 _ _ hdA hdB (fad.ext e9) (fbd.ext e9)) rfl ?_)
   rintro vI ya ⟨qa, fI⟩
   have ea := e9.trans qa
   refine AI ⟨Ext wd, fun _ e => e, ea, ?_⟩
   refine D_E rfl ?_
   refine AE rfl (AS (Cy ya 7 _ _ hdA hdB (fad.ext ea) (fbd.ext ea)) rfl ?_)
   rintro vJ yb ⟨qb, fJ⟩
   have eb := ea.trans qb
   refine AI ⟨Ext wd, fun _ e => e, eb, ?_⟩
   refine D_E rfl ?_
   refine AE rfl (AS (Cy yb 7 _ _ _ _ (fI.ext qb) fJ) rfl ?_)
   rintro vK yc ⟨qc, fK⟩
   obtain ⟨t0, t1, t2, t3, t4, rfl, ot⟩ := FV.five fK
   have ec := eb.trans qc
   refine AI ⟨Ext wd, fun _ e => e, ec, ?_⟩
   refine D_E rfl ?_
   refine AE rfl (AS (print_F yc hd4 _ ⟨rfl, fK⟩ (hG.ext (kwd.trans ec)) (of_decide_eq_true (by kernel_rfl)) (hG.ext (kwd.trans ec)).size (fun _ => of_decide_eq_true (by kernel_rfl))) rfl ?_)
   rintro _ yd ⟨rfl, qd⟩
   rw [hd_p4]
   have ed := ec.trans qd
   refine AI ⟨Ext wd, fun _ e => e, ed, ?_⟩
   ((refine D_seql rfl rfl rfl rfl (fun hc => ?_) (fun hc => ?_)) <;> refine D_R rfl rfl (fun W hW => AO rfl (AC rfl Z3)) (D_R rfl rfl (fun W hW => AB (AC rfl Z3)) (Ay ?_)))
   rotate_left
   ·exact absurd rfl (by assumption)
   repeat refine nx rfl ?_
   exact Ar () ⟨rfl, rfl, rfl, rfl, rfl, trivial⟩ (kd.trans ed)
 rintro _ v0 f0 kv
 replace fa := fa.ext kv
 replace ba := ba.keep kv (by simp)
 replace bS := bS.keep kv (by simp)
 replace fS := spcR.ext fS kv
 replace kv := kwc.trans kv
 clear bb fb kwc
 repeat refine nx rfl ?_
 have l1 := bS.lt
 obtain ⟨sv, rv, rfl, hsv, ra, rc, LR, rfl, SR, FR⟩ := fS
 obtain ⟨cy, hcy⟩ : ∃ cy, LR[2]? = some cy := ⟨_, List.getElem?_eq_getElem (by rw [FR.1]; decide)⟩
 have hcf := FR.2 2 cy _ hcy rfl
 obtain ⟨bq, oq, rfl, _, hcq⟩ := SR.recs FR (sz := 8) rfl hcy (by decide)
 obtain ⟨cf, rfl, hcl, hff⟩ := hcf
 obtain ⟨q0, q1, q2, q3, q4, rfl⟩ := CW hcl
 (refine AA (Ac (by rfl) (by rfl) ?_) <;> refine Ac (by rfl) (by rfl) ?_)
 refine AS (print_D v0 ⟨2, ⟨[], [103], 0, zeroF⟩⟩ [.int .i64 2, AM [], AM [103], .int .i64 0, .int .i64 0, AM [], .int .i64 0, .int .i64 0, .slice none 0 0] ⟨_, rfl, _, rfl, rfl, FAt.leaf _ _ _ _ _ _⟩ (hG.ext kv) (of_decide_eq_true (by kernel_rfl)) (hG.ext kv).size (fun _ => of_decide_eq_true (by kernel_rfl))) rfl ?_
 rintro _ v1 ⟨rfl, j1⟩
 rw [hd_p6]
 have e1 : v1.cell? ⟨w1.heap.size, 0 + 1, none⟩ = some (.slice (some ⟨bq, oq, none⟩) 3 rc) := (bS.keep j1 (by simp)).cell rfl
 refine CK rfl rfl (fun _ => ?_) (fun h => absurd rfl h)
 refine AC rfl (AE rfl (AD rfl (AE rfl (AG rfl (by assumption) ?_))))
 refine AE rfl (CH (k := 2) rfl rfl rfl (by decide) ?_)
 refine AE rfl (AZ (L := [AM [113], AM [111, 110, 101], .int .i64 2, q0, q1, q2, q3, q4]) rfl rfl (hcq.keep j1 (by simp)) ?_)
 refine AE rfl (Ac (by rfl) (by rfl) ?_)
 refine AE rfl (AS (print_D v1 ⟨1, ⟨[113], [111, 110, 101], 2, isF [103] 2⟩⟩ [.int .i64 1, AM [113], AM [111, 110, 101], .int .i64 2, q0, q1, q2, q3, q4] ⟨_, rfl, _, rfl, rfl, hff.ext j1⟩ (hG.ext (kv.trans j1)) (of_decide_eq_true (by kernel_rfl)) (hG.ext (kv.trans j1)).size (fun _ => of_decide_eq_true (by kernel_rfl))) rfl ?_)
 rintro _ v2 ⟨rfl, j2⟩
 rw [hd_p7]
 (refine AE rfl ?_; refine CK rfl rfl (fun _ => ?_) (fun h => absurd rfl h))
 refine AO rfl (AC rfl (AC rfl ?_))
 refine AE rfl (AS (ris_ok v2 [71] 1) rfl ?_)
 rintro vg v3 ⟨j3, fg⟩
 obtain ⟨g0, g1, g2, g3, g4, rfl, og⟩ := FV.five fg
 have j13 := (j1.trans j2).trans j3
 have kv3 := kv.trans j13
 refine AE rfl (AS (print_F v3 (isF [71] 1) _ ⟨rfl, fg⟩ (hG.ext kv3) (of_decide_eq_true (by kernel_rfl)) (hG.ext kv3).size (fun _ => of_decide_eq_true (by kernel_rfl))) rfl ?_)
 rintro _ v4 ⟨rfl, j4⟩
 rw [hd_p5]
 have kv4 := kv3.trans j4
 (refine AE rfl ?_; refine CK rfl rfl (fun _ => ?_) (fun h => absurd rfl h))
 refine AO rfl (AC rfl (AC rfl (AE rfl (Ac (by rfl) (by rfl) ?_))))
 refine AE rfl (AS (print_D v4 ⟨0, ⟨[], [], 0, zeroF⟩⟩ [.int .i64 0, AM [], AM [], .int .i64 0, .int .i64 0, AM [], .int .i64 0, .int .i64 0, .slice none 0 0] ⟨_, rfl, _, rfl, rfl, FAt.leaf _ _ _ _ _ _⟩ (hG.ext kv4) (of_decide_eq_true (by kernel_rfl)) (hG.ext kv4).size (fun _ => of_decide_eq_true (by kernel_rfl))) rfl ?_)
 rintro _ v5 ⟨rfl, j5⟩
 rw [hd_p8]
 (refine AE rfl ?_; refine CK rfl rfl (fun _ => ?_) (fun h => absurd rfl h))
 refine AO rfl (AC rfl (AB (AC rfl ?_)))
 repeat refine nx rfl ?_
 have kv5 := kv4.trans j5
 refine AA ?_
 refine AS (lexK v5 _ _ 2 hd_lex rfl (hG.ext kv5).gk.gv) rfl ?_
 rintro _ v6 ⟨la, lc, rfl, j6, _⟩
 have j06 := ((j13.trans j4).trans j5).trans j6
 have kv6 := kv.trans j06
 refine Bn rfl (Af rfl rfl (Af rfl rfl (Af rfl rfl (AB (Ah rfl (AB (AH rfl (AB (AH rfl ?_)))))))))
 repeat refine nx rfl ?_
 have b6 := bS.keep j06 (by simp)
 have e6 : v6.cell? ⟨w1.heap.size, 0 + 0, none⟩ = some sv := b6.cell rfl
 refine AA (AC rfl (AC rfl (AE rfl (AC rfl (AO rfl (AC rfl (AC rfl (AE rfl (AC rfl (AO rfl (AC rfl (AC rfl (AE rfl (AC rfl (AO rfl (AC rfl (AC rfl (AE rfl (AH rfl (AE rfl (Av rfl rfl (by omega) (AO rfl (AC rfl (AC rfl (AE rfl (Ah rfl (AE rfl (As rfl (AE rfl (Av rfl rfl (by omega) (AO rfl (AC rfl (AC rfl ?_)))))))))))))))))))))))))))))))))
 refine AE rfl (AW rfl (ba.keep j06 (by simp)) rfl ?_)
 refine AE rfl (AS (fsize_ok v6 _ hdA (fa.ext j06) (hF.ext kv6) (hG.ext kv6).size (of_decide_eq_true (by kernel_rfl)) (of_decide_eq_true (by kernel_rfl))) rfl ?_)
 rintro _ v7 ⟨rfl, j7⟩
 rw [show ((szF hdA : Nat) : Int) = 1 by kernel_rfl]
 have e7 : v7.cell? ⟨w1.heap.size, 0 + 0, none⟩ = some sv := j7.cell e6 (by simp)
 refine AE rfl (Av rfl rfl (by omega) (AO rfl (AC rfl (AC rfl (AE rfl (AD rfl (AE rfl (AG rfl (by assumption) ?_))))))))
 refine AE rfl (AS (sigFind_ok v7 sv exS.sigs [103] ((hsv.ext j06).ext j7)) rfl ?_)
 rintro _ v8 ⟨rfl, rfl⟩
 rw [show findM exS.sigs [103] = 1 by kernel_rfl]
 refine AE rfl (Av rfl rfl (by omega) (AO rfl (AC rfl (AB (AC rfl ?_)))))
 repeat refine nx rfl ?_
 exact AP rfl ⟨rfl, kv6.trans j7⟩
end Go.Proofs.YtfcgdbmoncnibaaGreatDoor
namespace Go.Proofs.YtfcgdbmoncnibaaGreatDoor
open Go.RowKit
set_option linter.unusedVariables false
theorem prtF_len {f : Fml} (h : okF f = true) : (prF 0 f).length ≤ 44 * szF f := by have := prF_len _ f (Nat.le_refl _) h 0; omega
def fT (f : Fml) : List UInt8 := if okF f then prF 0 f else []
theorem fT_len (f : Fml) : (fT f).length ≤ 44 * szF f := by unfold fT; split; exact prtF_len (by assumption); simp
theorem prtF_ok (w : World) (v : Value) (f : Fml) (hf : FAt BH w v f) (hG : GP w) (hz : szF f ≤ 1000000) : Fn Tryz.prog 14 [v] w fun u w' => u = AM (fT f) ∧ Ext w w' := by
 obtain ⟨c, rfl, hc, _⟩ := hf.cells
 exact print_F w f c ⟨hc, hf⟩ hG hz hG.size fun h => by have := prtF_len h; omega
end Go.Proofs.YtfcgdbmoncnibaaGreatDoor
namespace Go.Proofs.YtfcgdbmoncnibaaGreatDoor
set_option linter.unusedVariables false
variable {mk : Prop} [MK mk]
theorem name_sees {nm s : List UInt8} (h : BS nm = true) (hs : s ∈ keysL ∨ BK (s.getD 0 0) = false) : B6 s (some (1, nm)) = false := by
 obtain ⟨_, _, h3, _, h5⟩ := Ba h
 have : nm ≠ s := by
  rintro rfl
  rcases hs with hs | hs
  ·exact h5 hs
  ·rw [h3] at hs; cases hs
 simp [B6, this]
theorem tk_head : ∀ (m : Nat) (f : Fml) (n : Nat), SizeOf.sizeOf f ≤ m → okF f = true → ∃ x t, tkF n f = x :: t ∧ B6 [91] (some x) = false
 | 0, f, n, hm, _ => by cases f; simp at hm
 | m + 1, .mk op nm v b args, n, hm, hok => by
  simp only [okF, Bool.and_eq_true] at hok
  simp only [tkF]
  by_cases hlv : (BW op).level < n
  ·rw [decide_eq_true hlv]
   exact ⟨_, _, rfl, by decide⟩
  ·rw [decide_eq_false hlv]
   show ∃ x t, tkA _ _ _ _ = x :: t ∧ _
   have hsg : args.length < 2 → ∃ x t, sgK op nm v b = x :: t ∧ B6 [91] (some x) = false := fun h2 => by
    obtain ⟨st, hst, q1, q2, q3, q4, q5, q6, q7, q8⟩ := node_parts hok.1
    rcases op_cases hst with rfl | rfl | rfl | rfl | rfl | rfl | rfl | rfl | rfl | rfl | rfl | rfl | rfl | rfl | rfl | rfl | rfl | rfl | rfl
    case inr.inr.inl => exact ⟨_, _, rfl, name_sees (q7 rfl) (.inr (by decide))⟩
    case inr.inr.inr.inr.inr.inr.inr.inr.inr.inr.inr.inr.inr.inr.inl =>
     by_cases hv : v = 0
     ·exact ⟨_, _, by simp only [sgK, if_pos hv]; rfl, by decide⟩
     ·exact ⟨_, _, by simp only [sgK, if_neg hv]; rfl, by decide⟩
    all_goals exact ⟨_, _, rfl, by decide⟩
   match args, hok, hsg with
   | [], _, hsg => exact hsg (by simp)
   | [a], _, hsg =>
    obtain ⟨x, t, e, hx⟩ := hsg (by simp)
    exact ⟨x, t ++ (tkF (BW op).first a ++ tkR (BW op).next (sgK op nm v b) []), by simp [tkA, e], hx⟩
   | a :: c :: l, hok, _ =>
    simp only [okL, Bool.and_eq_true] at hok
    obtain ⟨x, t, e, hx⟩ := tk_head m a (BW op).first (by simp at hm; omega) hok.2.1
    exact ⟨x, t ++ tkR (BW op).next (sgK op nm v b) (c :: l), by simp [tkA, e], hx⟩
end Go.Proofs.YtfcgdbmoncnibaaGreatDoor
namespace Go.Proofs.YtfcgdbmoncnibaaGreatDoor
set_option linter.unusedVariables false
variable {mk : Prop} [MK mk]
end Go.Proofs.YtfcgdbmoncnibaaGreatDoor
namespace Go.Proofs.YtfcgdbmoncnibaaGreatDoor
set_option linter.unusedVariables false
variable {mk : Prop} [MK mk]
mutual
def oF : Nat → Fml → Nat
 | n, .mk op nm v b args => (if (BW op).level < n then 1 else 0) + oA (BW op).first (BW op).next args
def oA : Nat → Nat → List Fml → Nat
 | _, _, [] => 0
 | first, next, a :: l => oF first a + oR next l
def oR : Nat → List Fml → Nat
 | _, [] => 0
 | next, a :: l => oF next a + oR next l
end
theorem oF_mono {n m : Nat} (h : n ≤ m) (f : Fml) : oF n f ≤ oF m f := by
 cases f with
 | mk op nm v b args =>
  simp only [oF]
  split <;> split <;> omega
theorem oF_wrap (m : Nat) (f : Fml) : oF m f ≤ oF 0 f + 1 := by
 cases f with
 | mk op nm v b args =>
  simp only [oF]
  split <;> split <;> omega
def cnt (l : List Tok) : Nat := l.countP fun x => decide (x.text = [40])
theorem cnt_cons (x : Tok) (l : List Tok) : cnt (x :: l) = cnt l + if x.text = [40] then 1 else 0 := by
 unfold cnt
 rw [List.countP_cons]
 by_cases h : x.text = [40] <;> simp [h]
theorem cnt_suf {l l' : List Tok} (h : l' <:+ l) : cnt l' ≤ cnt l := by
 obtain ⟨t, rfl⟩ := h
 unfold cnt
 rw [List.countP_append]; omega
theorem Au {n : Nat} {α : Type} {nt : NT} {k : nt.T → G α} {l l' : List Tok} {b : α} (h : evG (evN n) (.call nt k) l = some (.ok (b, l'))) : ∃ v l1, evN n nt l = some (.ok (v, l1)) ∧ evG (evN n) (k v) l1 = some (.ok (b, l')) := by
 simp only [evG] at h
 cases hf : evN n nt l with
 | none => rw [hf] at h; cases h
 | some x =>
  rw [hf] at h
  cases x with
  | error e => cases h
  | ok y => exact ⟨y.1, y.2, rfl, h⟩
theorem Ab {n : Nat} {α β : Type} {p : G α} {q : α → G β} {l l' : List Tok} {b : β} (h : evG (evN n) (p.bind q) l = some (.ok (b, l'))) : ∃ a l1, evG (evN n) p l = some (.ok (a, l1)) ∧ evG (evN n) (q a) l1 = some (.ok (b, l')) := by
 rw [evG_bind] at h
 cases hf : evG (evN n) p l with
 | none => rw [hf] at h; cases h
 | some x =>
  rw [hf] at h
  cases x with
  | error e => cases h
  | ok y => exact ⟨y.1, y.2, rfl, h⟩
theorem An {n : Nat} {α : Type} {a b : α} {l l' : List Tok} (h : evG (evN n) (.ret a) l = some (.ok (b, l'))) : b = a ∧ l' = l := by
 simp only [evG, Option.some.injEq, Except.ok.injEq, Prod.mk.injEq] at h
 exact ⟨h.1.symm, h.2.symm⟩
theorem BU {n : Nat} {t : List UInt8} {l l' : List Tok} {b : Bool} (h : evG (evN n) (Ai t) l = some (.ok (b, l'))) : (b = true ∧ ∃ x, l = x :: l' ∧ x.text = t) ∨ (b = false ∧ l' = l) := by
 rcases DF ⟨n, h⟩ with ⟨hb, _, hs, rfl⟩ | ⟨hb, rfl, _⟩
 ·cases l with
  | nil => simp [B6] at hs
  | cons x l =>
   refine .inl ⟨hb, x, rfl, ?_⟩
   simp [B6, bare] at hs
   exact hs.2
 ·exact .inr ⟨hb, rfl⟩
theorem A4 {n : Nat} {α : Type} {p : G α} {l l' : List Tok} {b : α} (h : evG (evN n) p l = some (.ok (b, l'))) : l' <:+ l := by
 have : Run p l (.ok (b, l')) := ⟨n, h⟩
 exact this.suffix
theorem ev_name {n : Nat} {l l' : List Tok} {s : List UInt8} (h : evG (evN n) nameG l = some (.ok (s, l'))) : BS s = true := by
 simp only [nameG, evG] at h
 cases l with
 | nil => simp [evG] at h
 | cons x l =>
  simp only [List.head?_cons, Option.map_some] at h
  cases hb : (decide ((bare x).1 = 1) && BS (bare x).2) with
  | false => rw [hb] at h; simp [evG] at h
  | true =>
   rw [hb] at h
   simp only [if_true, evG] at h
   obtain ⟨rfl, _⟩ := An (n := n) h
   simp only [Bool.and_eq_true] at hb
   exact hb.2
def NumsOk (l : List Tok) : Prop := ∀ x ∈ l, x.kind = 2 → 0 ≤ numOf x.text ∧ numOf x.text ≤ 9999
theorem NumsOk.suf {l l' : List Tok} (h : NumsOk l) (hs : l' <:+ l) : NumsOk l' := fun x hx => h x (hs.subset hx)
theorem ev_number {n : Nat} {l l' : List Tok} {v : Int} (h : evG (evN n) numberG l = some (.ok (v, l'))) (hl : NumsOk l) : 0 ≤ v ∧ v ≤ 9999 := by
 simp only [numberG, evG] at h
 cases l with
 | nil => simp [evG] at h
 | cons x l =>
  simp only [List.head?_cons, Option.map_some] at h
  by_cases hb : (bare x).1 = 2
  ·rw [decide_eq_true hb] at h
   simp only [if_true, evG] at h
   obtain ⟨rfl, _⟩ := An (n := n) h
   exact hl x (by simp) hb
  ·rw [decide_eq_false hb] at h
   simp [evG] at h
theorem ev_take {n : Nat} {tab : List (List UInt8 × Opr)} {l l' : List Tok} {o : Option Opr} (h : evG (evN n) (takeG tab) l = some (.ok (o, l'))) : (∃ s p, o = some p ∧ tab.lookup s = some p) ∨ (o = none ∧ l' = l) := by
 simp only [takeG, evG] at h
 cases l with
 | nil =>
  obtain ⟨rfl, rfl⟩ := An (n := n) h
  exact .inr ⟨rfl, rfl⟩
 | cons x l =>
  simp only [List.head?_cons, Option.map_some] at h
  cases hk : tab.lookup (bare x).2 with
  | none =>
   rw [hk] at h
   obtain ⟨rfl, rfl⟩ := An (n := n) h
   exact .inr ⟨rfl, rfl⟩
  | some p =>
   rw [hk] at h
   simp only [evG] at h
   obtain ⟨rfl, _⟩ := An (n := n) h
   exact .inl ⟨_, p, rfl, hk⟩
theorem ev_index {n : Nat} {o : Opr} {l l' : List Tok} {v : Option Int} (h : evG (evN n) (C3 o) l = some (.ok (v, l'))) (hl : NumsOk l) : (v = none ∨ o.indexed ≠ 0 ∧ ∃ k, v = some k ∧ 0 ≤ k ∧ k ≤ 9999) := by
 unfold C3 at h
 split at h
 ·exact .inl (An h).1
 ·rename_i ho
  obtain ⟨b, l1, h1, h2⟩ := Ab h
  have s1 := A4 h1
  rcases BU h1 with ⟨rfl, _⟩ | ⟨rfl, _⟩
  ·obtain ⟨k, l2, h3, h4⟩ := Ab (show evG (evN n) (numberG.bind _) l1 = _ from h2)
   obtain ⟨_, l3, _, h5⟩ := Ab h4
   obtain ⟨rfl, _⟩ := An h5
   exact .inr ⟨ho, k, rfl, ev_number h3 (hl.suf s1)⟩
  ·exact .inl (An (show evG (evN n) (.ret none) l1 = _ from h2)).1
def reqP (r : Rqm) : Prop := BS r.name = true ∧ (r.kind = 1 ∨ r.kind = 2) ∧ okF r.formula = true
def reqQ (r : Rqm) : Prop := BS r.part = true ∧ reqP r
def sigP (x : Sgn) : Prop := BS x.name = true ∧ 0 ≤ x.size ∧ x.size ≤ 9999
def Phi : (nt : NT) → nt.T → List Tok → List Tok → Prop
 | .formula, f, l, l' => okF f = true ∧ oF 0 f + cnt l' ≤ cnt l
 | .orN, f, l, l' => okF f = true ∧ oF 1 f + cnt l' ≤ cnt l
 | .andN, f, l, l' => okF f = true ∧ oF 2 f + cnt l' ≤ cnt l
 | .untilN, f, l, l' => okF f = true ∧ oF 3 f + cnt l' ≤ cnt l
 | .unary, f, l, l' => okF f = true ∧ oF 4 f + cnt l' ≤ cnt l
 | .primary, f, l, l' => okF f = true ∧ oF 4 f + cnt l' ≤ cnt l
 | .orL, fs, l, l' => okL fs = true ∧ oR 2 fs + cnt l' ≤ cnt l ∧ fs.length + l'.length ≤ l.length
 | .andL, fs, l, l' => okL fs = true ∧ oR 3 fs + cnt l' ≤ cnt l ∧ fs.length + l'.length ≤ l.length
 | .req, r, _, _ => r.part = [] ∧ reqP r
 | .line, r, _, _ => r.part = [] ∧ reqP r
 | .lines, rs, _, _ => ∀ r ∈ rs, reqP r
 | .part, rs, _, _ => ∀ r ∈ rs, reqQ r
 | .parts, ps, _, _ => ∀ rs ∈ ps, ∀ r ∈ rs, reqQ r
 | .signal, x, _, _ => sigP x
 | .sigs, xs, _, _ => ∀ x ∈ xs, sigP x
 | .spec, s, _, _ => (∀ x ∈ s.sigs, sigP x) ∧ ∀ r ∈ s.reqs, reqQ r
 | .edit, e, _, _ => (e.kind = 2 ∧ e.req.part = [] ∧ e.req.kind = 0 ∧ e.req.formula = zeroF ∧ BS e.req.name = true) ∨ ((e.kind = 1 ∨ e.kind = 3) ∧ reqQ e.req)
theorem Cu {op v b : Int} {nm : List UInt8} {l : List Fml} (h : Bq op nm v b l.length = true) (hl : okL l = true) : okF (.mk op nm v b l) = true := by
 simp only [okF, h, hl, Bool.and_self]
theorem node_many {op : Int} (ho : op = 5 ∨ op = 6) {n : Nat} (h1 : 2 ≤ n) (h2 : n ≤ 3000) : Bq op [] 0 0 n = true := by
 rcases ho with rfl | rfl <;> simp [Bq, BB, styL, List.lookup, many] <;> omega
theorem evN_suf {n : Nat} {nt : NT} {l l' : List Tok} {v : nt.T} (h : evN n nt l = some (.ok (v, l'))) : l' <:+ l := evN_suffix n nt l _ h
theorem lookup_val {β : Type} {a : List UInt8} {b : β} : ∀ {l : List (List UInt8 × β)}, l.lookup a = some b → b ∈ l.map (·.2)
 | [], h => by cases h
 | (k, v) :: l, h => by
  rw [List.lookup_cons] at h
  by_cases hk : a = k
  ·rw [show (a == k) = true by simpa using hk] at h
   cases h; simp
  ·rw [show (a == k) = false by simpa using hk] at h
   have := lookup_val (l := l) h
   simp only [List.map_cons, List.mem_cons]
   exact .inr this
theorem inf_val {s : List UInt8} {p : Opr} (h : infixT.lookup s = some p) : p = ⟨9, 0, 0⟩ ∨ p = ⟨10, 0, 0⟩ ∨ p = ⟨16, 16, 0⟩ ∨ p = ⟨17, 17, 1⟩ := by simpa [infixT] using lookup_val h
theorem pre_val {s : List UInt8} {p : Opr} (h : prefixT.lookup s = some p) : p = ⟨4, 0, 0⟩ ∨ p = ⟨8, 0, 0⟩ ∨ p = ⟨15, 0, 0⟩ ∨ p = ⟨15, 0, 1⟩ ∨ p = ⟨18, 0, 0⟩ ∨ p = ⟨19, 0, 0⟩ ∨ p = ⟨11, 13, 0⟩ ∨ p = ⟨12, 14, 0⟩ := by simpa [prefixT] using lookup_val h
theorem inf_node {p : Opr} {k : Option Int} {a c : Fml} (hp : p = ⟨9, 0, 0⟩ ∨ p = ⟨10, 0, 0⟩ ∨ p = ⟨16, 16, 0⟩ ∨ p = ⟨17, 17, 1⟩) (hk : k = none ∨ p.indexed ≠ 0 ∧ ∃ j, k = some j ∧ 0 ≤ j ∧ j ≤ 9999) (oa : okF a = true) (oc : okF c = true) :
  okF (.mk p.op [] (k.getD p.val) 0 [a, c]) = true ∧ oF 3 (.mk p.op [] (k.getD p.val) 0 [a, c]) = oF 4 a + oF 3 c := by
 have hl : okL [a, c] = true := by simp [okL, oa, oc]
 rcases hp with rfl | rfl | rfl | rfl <;> rcases hk with rfl | ⟨h0, j, rfl, h1, h2⟩
 ·exact ⟨Cu rfl hl, by simp [oF, oA, oR, BW, BB, styL, List.lookup]⟩
 ·exact absurd rfl h0
 ·exact ⟨Cu rfl hl, by simp [oF, oA, oR, BW, BB, styL, List.lookup]⟩
 ·exact absurd rfl h0
 ·exact ⟨Cu rfl hl, by simp [oF, oA, oR, BW, BB, styL, List.lookup]⟩
 ·exact ⟨Cu (by simp [Bq, BB, styL, List.lookup]; omega) hl, by simp [oF, oA, oR, BW, BB, styL, List.lookup]⟩
 ·exact ⟨Cu rfl hl, by simp [oF, oA, oR, BW, BB, styL, List.lookup]⟩
 ·exact ⟨Cu (by simp [Bq, BB, styL, List.lookup]; omega) hl, by simp [oF, oA, oR, BW, BB, styL, List.lookup]⟩
def prfxF (p : Opr) (k : Option Int) (a : Fml) : Fml := match k with
 | some n => ⟨p.indexed, [], p.val, n, [a]⟩
 | none => ⟨p.op, [], p.val, 0, [a]⟩
set_option maxHeartbeats 1600000 in
theorem pre_node {p : Opr} {k : Option Int} {a : Fml} (hp : p = ⟨4, 0, 0⟩ ∨ p = ⟨8, 0, 0⟩ ∨ p = ⟨15, 0, 0⟩ ∨ p = ⟨15, 0, 1⟩ ∨ p = ⟨18, 0, 0⟩ ∨ p = ⟨19, 0, 0⟩ ∨ p = ⟨11, 13, 0⟩ ∨ p = ⟨12, 14, 0⟩) (hk : k = none ∨ p.indexed ≠ 0 ∧ ∃ j, k = some j ∧ 0 ≤ j ∧ j ≤ 9999) (oa : okF a = true) {f : Fml}
  (hf : f = prfxF p k a) : okF f = true ∧ oF 4 f = oF 4 a := by
 have hl : okL [a] = true := by simp [okL, oa]
 subst hf
 rcases hk with rfl | ⟨h0, j, rfl, h1, h2⟩
 ·show okF (.mk p.op [] p.val 0 [a]) = true ∧ oF 4 (.mk p.op [] p.val 0 [a]) = oF 4 a
  rcases hp with rfl | rfl | rfl | rfl | rfl | rfl | rfl | rfl <;> exact ⟨Cu rfl hl, by simp [oF, oA, oR, BW, BB, styL, List.lookup]⟩
 ·show okF (.mk p.indexed [] p.val j [a]) = true ∧ oF 4 (.mk p.indexed [] p.val j [a]) = oF 4 a
  rcases hp with rfl | rfl | rfl | rfl | rfl | rfl | rfl | rfl
  ·exact absurd rfl h0
  ·exact absurd rfl h0
  ·exact absurd rfl h0
  ·exact absurd rfl h0
  ·exact absurd rfl h0
  ·exact absurd rfl h0
  ·exact ⟨Cu (by simp [Bq, BB, styL, List.lookup]; omega) hl, by simp [oF, oA, oR, BW, BB, styL, List.lookup]⟩
  ·exact ⟨Cu (by simp [Bq, BB, styL, List.lookup]; omega) hl, by simp [oF, oA, oR, BW, BB, styL, List.lookup]⟩
theorem ev_expect {n : Nat} {t : List UInt8} {l l' : List Tok} {u : Unit} (h : evG (evN n) (A9 t) l = some (.ok (u, l'))) : cnt l' ≤ cnt l := cnt_suf (A4 h)
theorem is_ok {s : List UInt8} {k : Int} (hs : BS s = true) (h1 : 0 ≤ k) (h2 : k ≤ 9999) : okF (isF s k) = true := by
 refine Cu ?_ rfl
 simp [Bq, BB, styL, List.lookup, hs]; omega
theorem is_o {s : List UInt8} {k : Int} (m : Nat) (hm : m ≤ 5) : oF m (isF s k) = 0 := by
 simp [isF, oF, oA, BW, BB, styL, List.lookup]; omega
set_option maxHeartbeats 3200000 in
theorem evN_phi : ∀ (n : Nat) (nt : NT) (l : List Tok) (v : nt.T) (l' : List Tok), NumsOk l → l.length ≤ 2000 → evN n nt l = some (.ok (v, l')) → Phi nt v l l'
 | 0, _, _, _, _, _, _, h => by cases h
 | n + 1, nt, l, v, l', hl, hc, h => by
  have ih := evN_phi n
  cases nt with
  | formula =>
   have hA : evG (evN n) (.call .orN fun a => (Ai [45, 62]).bind fun b => if b then .call .formula fun c => .ret ⟨7, [], 0, 0, [a, c]⟩ else .ret a) l = some (.ok (v, l')) := h
   obtain ⟨a, l1, hq1, hB⟩ := Au hA
   obtain ⟨oa, ca⟩ := ih .orN _ _ _ hl hc hq1
   have s1 := evN_suf hq1
   obtain ⟨b, l2, hb, hC⟩ := Ab hB
   rcases BU hb with ⟨rfl, x, rfl, _⟩ | ⟨rfl, rfl⟩
   ·obtain ⟨c, l3, hq2, hD⟩ := Au (show evG (evN n) (.call .formula fun c => .ret ⟨7, [], 0, 0, [a, c]⟩) l2 = some (.ok (v, l')) from hC)
    have s2 : l2 <:+ l := (List.suffix_cons x l2).trans s1
    obtain ⟨oc, cc⟩ := ih .formula _ _ _ (hl.suf s2) (by have := s2.length_le; omega) hq2
    obtain ⟨rfl, rfl⟩ := An hD
    rw [cnt_cons] at ca
    refine ⟨Cu rfl (by simp only [okL, Bool.and_eq_true]; exact ⟨oa, oc, trivial⟩), ?_⟩
    have e : oF 0 (.mk 7 [] 0 0 [a, c]) = oF 1 a + oF 0 c := by simp [oF, oA, oR, BW, BB, styL, List.lookup]
    show oF 0 (.mk 7 [] 0 0 [a, c]) + _ ≤ _
    rw [e]; omega
   ·obtain ⟨rfl, rfl⟩ := An (show evG (evN n) (.ret a) l2 = some (.ok (v, l')) from hC)
    have := oF_mono (show 0 ≤ 1 by omega) v
    exact ⟨oa, by omega⟩
  | orN =>
   have hA : evG (evN n) (.call .andN fun a => .call .orL fun l => .ret (nodeF 6 (a :: l))) l = some (.ok (v, l')) := h
   obtain ⟨a, l1, hq1, hB⟩ := Au hA
   obtain ⟨oa, ca⟩ := ih .andN _ _ _ hl hc hq1
   have s1 := evN_suf hq1
   obtain ⟨k, l2, hq2, hC⟩ := Au hB
   obtain ⟨ok, ck, nk⟩ := ih .orL _ _ _ (hl.suf s1) (by have := s1.length_le; omega) hq2
   obtain ⟨rfl, rfl⟩ := An hC
   cases k with
   | nil =>
    show okF a = true ∧ _
    refine ⟨oa, ?_⟩
    have := oF_mono (show 1 ≤ 2 by omega) a
    simp only [oR] at ck
    show oF 1 a + _ ≤ _
    omega
   | cons d k =>
    have := s1.length_le
    have e : oF 1 (.mk 6 [] 0 0 (a :: d :: k)) = oF 2 a + oR 2 (d :: k) := by simp [oF, oA, BW, BB, styL, List.lookup]
    refine ⟨Cu (node_many (.inr rfl) (by simp) (by simp at nk ⊢; omega)) (by simp only [okL, Bool.and_eq_true] at ok ⊢; exact ⟨oa, ok⟩), ?_⟩
    show oF 1 (.mk 6 [] 0 0 (a :: d :: k)) + _ ≤ _
    rw [e]; omega
  | orL =>
   have hA : evG (evN n) ((Ai [124]).bind fun b => if b then .call .andN fun a => .call .orL fun l => .ret (a :: l) else .ret []) l = some (.ok (v, l')) := h
   obtain ⟨b, l2, hb, hB⟩ := Ab hA
   rcases BU hb with ⟨rfl, x, rfl, _⟩ | ⟨rfl, rfl⟩
   ·obtain ⟨a, l3, hq1, hC⟩ := Au (show evG (evN n) (.call .andN fun a => .call .orL fun l => .ret (a :: l)) l2 = some (.ok (v, l')) from hB)
    have s2 : l2 <:+ x :: l2 := List.suffix_cons x l2
    obtain ⟨oa, ca⟩ := ih .andN _ _ _ (hl.suf s2) (by have := s2.length_le; omega) hq1
    have s3 := evN_suf hq1
    obtain ⟨k, l4, hq2, hD⟩ := Au hC
    obtain ⟨ok, ck, nk⟩ := ih .orL _ _ _ ((hl.suf s2).suf s3) (by have := s2.length_le; have := s3.length_le; omega) hq2
    obtain ⟨rfl, rfl⟩ := An hD
    have := s3.length_le
    refine ⟨by simp only [okL, Bool.and_eq_true]; exact ⟨oa, ok⟩, ?_, by simp only [List.length_cons]; omega⟩
    rw [cnt_cons]
    simp only [oR]; omega
   ·obtain ⟨rfl, rfl⟩ := An (show evG (evN n) (.ret []) l2 = some (.ok (v, l')) from hB)
    exact ⟨rfl, by simp [oR], by simp⟩
  | andN =>
   have hA : evG (evN n) (.call .untilN fun a => .call .andL fun l => .ret (nodeF 5 (a :: l))) l = some (.ok (v, l')) := h
   obtain ⟨a, l1, hq1, hB⟩ := Au hA
   obtain ⟨oa, ca⟩ := ih .untilN _ _ _ hl hc hq1
   have s1 := evN_suf hq1
   obtain ⟨k, l2, hq2, hC⟩ := Au hB
   obtain ⟨ok, ck, nk⟩ := ih .andL _ _ _ (hl.suf s1) (by have := s1.length_le; omega) hq2
   obtain ⟨rfl, rfl⟩ := An hC
   cases k with
   | nil =>
    show okF a = true ∧ _
    refine ⟨oa, ?_⟩
    have := oF_mono (show 2 ≤ 3 by omega) a
    simp only [oR] at ck
    show oF 2 a + _ ≤ _
    omega
   | cons d k =>
    have := s1.length_le
    have e : oF 2 (.mk 5 [] 0 0 (a :: d :: k)) = oF 3 a + oR 3 (d :: k) := by simp [oF, oA, BW, BB, styL, List.lookup]
    refine ⟨Cu (node_many (.inl rfl) (by simp) (by simp at nk ⊢; omega)) (by simp only [okL, Bool.and_eq_true] at ok ⊢; exact ⟨oa, ok⟩), ?_⟩
    show oF 2 (.mk 5 [] 0 0 (a :: d :: k)) + _ ≤ _
    rw [e]; omega
  | andL =>
   have hA : evG (evN n) ((Ai [38]).bind fun b => if b then .call .untilN fun a => .call .andL fun l => .ret (a :: l) else .ret []) l = some (.ok (v, l')) := h
   obtain ⟨b, l2, hb, hB⟩ := Ab hA
   rcases BU hb with ⟨rfl, x, rfl, _⟩ | ⟨rfl, rfl⟩
   ·obtain ⟨a, l3, hq1, hC⟩ := Au (show evG (evN n) (.call .untilN fun a => .call .andL fun l => .ret (a :: l)) l2 = some (.ok (v, l')) from hB)
    have s2 : l2 <:+ x :: l2 := List.suffix_cons x l2
    obtain ⟨oa, ca⟩ := ih .untilN _ _ _ (hl.suf s2) (by have := s2.length_le; omega) hq1
    have s3 := evN_suf hq1
    obtain ⟨k, l4, hq2, hD⟩ := Au hC
    obtain ⟨ok, ck, nk⟩ := ih .andL _ _ _ ((hl.suf s2).suf s3) (by have := s2.length_le; have := s3.length_le; omega) hq2
    obtain ⟨rfl, rfl⟩ := An hD
    have := s3.length_le
    refine ⟨by simp only [okL, Bool.and_eq_true]; exact ⟨oa, ok⟩, ?_, by simp only [List.length_cons]; omega⟩
    rw [cnt_cons]
    simp only [oR]; omega
   ·obtain ⟨rfl, rfl⟩ := An (show evG (evN n) (.ret []) l2 = some (.ok (v, l')) from hB)
    exact ⟨rfl, by simp [oR], by simp⟩
  | untilN =>
   have hA : evG (evN n) (.call .unary fun a => (takeG infixT).bind fun
    | none => .ret a
    | some o => (C3 o).bind fun n => .call .untilN fun c => .ret ⟨o.op, [], n.getD o.val, 0, [a, c]⟩) l = some (.ok (v, l')) := h
   obtain ⟨a, l1, hq1, hB⟩ := Au hA
   obtain ⟨oa, ca⟩ := ih .unary _ _ _ hl hc hq1
   have s1 := evN_suf hq1
   obtain ⟨o, l2, hb, hC⟩ := Ab hB
   have s2 := (A4 hb).trans s1
   have c2 := cnt_suf (A4 hb)
   rcases ev_take hb with ⟨w, p, rfl, hp⟩ | ⟨rfl, rfl⟩
   ·obtain ⟨k, l3, hk, hD⟩ := Ab (show evG (evN n) ((C3 p).bind fun n => .call .untilN fun c => .ret ⟨p.op, [], n.getD p.val, 0, [a, c]⟩) l2 = some (.ok (v, l')) from hC)
    have s3 := (A4 hk).trans s2
    have c3 := cnt_suf (A4 hk)
    obtain ⟨c, l4, hq2, hE⟩ := Au hD
    obtain ⟨oc, cc⟩ := ih .untilN _ _ _ (hl.suf s3) (by have := s3.length_le; omega) hq2
    obtain ⟨rfl, rfl⟩ := An hE
    obtain ⟨i1, i2⟩ := inf_node (inf_val hp) (ev_index hk (hl.suf s2)) oa oc
    refine ⟨i1, ?_⟩
    show oF 3 (.mk p.op [] (k.getD p.val) 0 [a, c]) + _ ≤ _
    rw [i2]; omega
   ·obtain ⟨rfl, rfl⟩ := An (show evG (evN n) (.ret a) l2 = some (.ok (v, l')) from hC)
    have := oF_mono (show 3 ≤ 4 by omega) v
    exact ⟨oa, by omega⟩
  | unary =>
   have hA : evG (evN n) ((takeG prefixT).bind fun
    | none => .call .primary .ret
    | some o => (C3 o).bind fun n => .call .unary fun a => .ret (match n with
     | some n => ⟨o.indexed, [], o.val, n, [a]⟩
     | none => ⟨o.op, [], o.val, 0, [a]⟩)) l = some (.ok (v, l')) := h
   obtain ⟨o, l2, hb, hC⟩ := Ab hA
   have s2 := A4 hb
   have c2 := cnt_suf s2
   rcases ev_take hb with ⟨w, p, rfl, hp⟩ | ⟨rfl, rfl⟩
   ·obtain ⟨k, l3, hk, hD⟩ := Ab (show evG (evN n) ((C3 p).bind fun n => .call .unary fun a => .ret (match n with
     | some n => ⟨p.indexed, [], p.val, n, [a]⟩
     | none => ⟨p.op, [], p.val, 0, [a]⟩)) l2 = some (.ok (v, l')) from hC)
    have s3 := (A4 hk).trans s2
    have c3 := cnt_suf (A4 hk)
    obtain ⟨c, l4, hq2, hE⟩ := Au hD
    obtain ⟨oc, cc⟩ := ih .unary _ _ _ (hl.suf s3) (by have := s3.length_le; omega) hq2
    obtain ⟨e1, rfl⟩ := An hE
    obtain ⟨i1, i2⟩ := pre_node (pre_val hp) (ev_index hk (hl.suf s2)) oc (show v = prfxF p k c from e1)
    exact ⟨i1, by rw [i2]; omega⟩
   ·obtain ⟨a, l3, hq1, hD⟩ := Au (show evG (evN n) (.call .primary .ret) l2 = some (.ok (v, l')) from hC)
    obtain ⟨rfl, rfl⟩ := An hD
    exact ih .primary _ _ _ hl hc hq1
  | primary =>
   have hA : evG (evN n) ((Ai [116, 114, 117, 101]).bind fun b => if b then .ret ⟨1, [], 0, 0, []⟩ else
    (Ai [102, 97, 108, 115, 101]).bind fun b => if b then .ret ⟨2, [], 0, 0, []⟩ else
    (Ai [40]).bind fun b => if b then .call .formula fun f => (A9 [41]).bind fun _ => .ret f else
    nameG.bind fun s => (Ai [61]).bind fun b => if b then numberG.bind fun n => .ret (isF s n) else
    (Ai [33, 61]).bind fun b => if b then numberG.bind fun n => .ret (notF (isF s n)) else .ret (isF s 1)) l = some (.ok (v, l')) := h
   obtain ⟨b, l1, hb1, hB⟩ := Ab hA
   rcases BU hb1 with ⟨rfl, x, rfl, _⟩ | ⟨rfl, rfl⟩
   ·obtain ⟨rfl, rfl⟩ := An (show evG (evN n) (.ret ⟨1, [], 0, 0, []⟩) l1 = some (.ok (v, l')) from hB)
    refine ⟨by decide, ?_⟩
    show oF 4 (.mk 1 [] 0 0 []) + _ ≤ _
    rw [show oF 4 (.mk 1 [] 0 0 []) = 0 by decide, cnt_cons]; omega
   replace hB : evG (evN n) ((Ai [102, 97, 108, 115, 101]).bind fun b => if b then .ret ⟨2, [], 0, 0, []⟩ else
    (Ai [40]).bind fun b => if b then .call .formula fun f => (A9 [41]).bind fun _ => .ret f else
    nameG.bind fun s => (Ai [61]).bind fun b => if b then numberG.bind fun n => .ret (isF s n) else
    (Ai [33, 61]).bind fun b => if b then numberG.bind fun n => .ret (notF (isF s n)) else .ret (isF s 1)) l1 = some (.ok (v, l')) := hB
   obtain ⟨b, l2, hb2, hC⟩ := Ab hB
   rcases BU hb2 with ⟨rfl, x, rfl, _⟩ | ⟨rfl, rfl⟩
   ·obtain ⟨rfl, rfl⟩ := An (show evG (evN n) (.ret ⟨2, [], 0, 0, []⟩) l2 = some (.ok (v, l')) from hC)
    refine ⟨by decide, ?_⟩
    show oF 4 (.mk 2 [] 0 0 []) + _ ≤ _
    rw [show oF 4 (.mk 2 [] 0 0 []) = 0 by decide, cnt_cons]; omega
   replace hC : evG (evN n) ((Ai [40]).bind fun b => if b then .call .formula fun f => (A9 [41]).bind fun _ => .ret f else
    nameG.bind fun s => (Ai [61]).bind fun b => if b then numberG.bind fun n => .ret (isF s n) else
    (Ai [33, 61]).bind fun b => if b then numberG.bind fun n => .ret (notF (isF s n)) else .ret (isF s 1)) l2 = some (.ok (v, l')) := hC
   obtain ⟨b, l3, hb3, hD⟩ := Ab hC
   rcases BU hb3 with ⟨rfl, x, rfl, hx⟩ | ⟨rfl, rfl⟩
   ·obtain ⟨f, l4, hq1, hE⟩ := Au (show evG (evN n) (.call .formula fun f => (A9 [41]).bind fun _ => .ret f) l3 = some (.ok (v, l')) from hD)
    have s3 : l3 <:+ x :: l3 := List.suffix_cons x l3
    obtain ⟨of, cf⟩ := ih .formula _ _ _ (hl.suf s3) (by have := s3.length_le; omega) hq1
    obtain ⟨_, l5, hq2, hF⟩ := Ab hE
    have c5 := ev_expect hq2
    obtain ⟨rfl, rfl⟩ := An hF
    have := oF_wrap 4 v
    refine ⟨of, ?_⟩
    rw [cnt_cons, if_pos hx]; omega
   replace hD : evG (evN n) (nameG.bind fun s => (Ai [61]).bind fun b => if b then numberG.bind fun n => .ret (isF s n) else
    (Ai [33, 61]).bind fun b => if b then numberG.bind fun n => .ret (notF (isF s n)) else .ret (isF s 1)) l3 = some (.ok (v, l')) := hD
   obtain ⟨s, l4, hn, hE⟩ := Ab hD
   have s4 := A4 hn
   have c4 := cnt_suf s4
   have hs := ev_name hn
   obtain ⟨b, l5, hb5, hF⟩ := Ab hE
   have s5 := (A4 hb5).trans s4
   have c5 := cnt_suf (A4 hb5)
   rcases BU hb5 with ⟨rfl, x, rfl, hx⟩ | ⟨rfl, rfl⟩
   ·obtain ⟨k, l6, hk, hG⟩ := Ab (show evG (evN n) (numberG.bind fun n => .ret (isF s n)) l5 = some (.ok (v, l')) from hF)
    have c6 := cnt_suf (A4 hk)
    obtain ⟨rfl, rfl⟩ := An hG
    obtain ⟨k1, k2⟩ := ev_number hk (hl.suf s5)
    refine ⟨is_ok hs k1 k2, ?_⟩
    show oF 4 (isF s k) + _ ≤ _
    rw [is_o 4 (by omega)]; omega
   replace hF : evG (evN n) ((Ai [33, 61]).bind fun b => if b then numberG.bind fun n => .ret (notF (isF s n)) else .ret (isF s 1)) l5 = some (.ok (v, l')) := hF
   obtain ⟨b, l6, hb6, hG⟩ := Ab hF
   have s6 := (A4 hb6).trans s5
   have c6 := cnt_suf (A4 hb6)
   rcases BU hb6 with ⟨rfl, x, rfl, hx⟩ | ⟨rfl, rfl⟩
   ·obtain ⟨k, l7, hk, hH⟩ := Ab (show evG (evN n) (numberG.bind fun n => .ret (notF (isF s n))) l6 = some (.ok (v, l')) from hG)
    have c7 := cnt_suf (A4 hk)
    obtain ⟨rfl, rfl⟩ := An hH
    obtain ⟨k1, k2⟩ := ev_number hk (hl.suf s6)
    obtain ⟨i1, i2⟩ := pre_node (p := ⟨4, 0, 0⟩) (k := none) (.inl rfl) (.inl rfl) (is_ok hs k1 k2) (f := notF (isF s k)) rfl
    refine ⟨i1, ?_⟩
    show oF 4 (notF (isF s k)) + _ ≤ _
    rw [i2, is_o 4 (by omega)]; omega
   ·obtain ⟨rfl, rfl⟩ := An (show evG (evN n) (.ret (isF s 1)) l6 = some (.ok (v, l')) from hG)
    refine ⟨is_ok hs (by omega) (by omega), ?_⟩
    show oF 4 (isF s 1) + _ ≤ _
    rw [is_o 4 (by omega)]; omega
  | req =>
   have hA : evG (evN n) ((Ai [97, 115, 115, 117, 109, 101]).bind fun b => (if b then .ret 1 else (A9 [103, 117, 97, 114, 97, 110, 116, 101, 101]).bind fun _ => .ret 2).bind fun k =>
    nameG.bind fun s => (A9 [58]).bind fun _ => .call .formula fun f => .ret ⟨[], s, k, f⟩) l = some (.ok (v, l')) := h
   obtain ⟨b, l1, hb1, hB⟩ := Ab hA
   have s1 := A4 hb1
   obtain ⟨k, l2, hk, hC⟩ := Ab hB
   have s2 := (A4 hk).trans s1
   have hkk : k = 1 ∨ k = 2 := by
    cases b with
    | true => exact .inl (An (show evG (evN n) (.ret 1) l1 = some (.ok (k, l2)) from hk)).1
    | false =>
     obtain ⟨_, l3, _, hr⟩ := Ab (show evG (evN n) ((A9 [103, 117, 97, 114, 97, 110, 116, 101, 101]).bind fun _ => .ret 2) l1 = some (.ok (k, l2)) from hk)
     exact .inr (An hr).1
   obtain ⟨s, l3, hn, hD⟩ := Ab hC
   have s3 := (A4 hn).trans s2
   obtain ⟨_, l4, he, hE⟩ := Ab hD
   have s4 := (A4 he).trans s3
   obtain ⟨f, l5, hq1, hF⟩ := Au hE
   obtain ⟨of, _⟩ := ih .formula _ _ _ (hl.suf s4) (by have := s4.length_le; omega) hq1
   obtain ⟨rfl, rfl⟩ := An hF
   exact ⟨rfl, ev_name hn, hkk, of⟩
  | line =>
   have hA : evG (evN n) (.call .req fun r => (A9 [59]).bind fun _ => .ret r) l = some (.ok (v, l')) := h
   obtain ⟨r, l1, hq1, hB⟩ := Au hA
   obtain ⟨_, l2, _, hC⟩ := Ab hB
   obtain ⟨rfl, rfl⟩ := An hC
   exact ih .req _ _ _ hl hc hq1
  | lines =>
   have hA : evG (evN n) ((sees2 [97, 115, 115, 117, 109, 101] [103, 117, 97, 114, 97, 110, 116, 101, 101]).bind fun b => if b then .call .line fun r => .call .lines fun l => .ret (r :: l) else .ret []) l = some (.ok (v, l')) := h
   obtain ⟨b, l1, hb, hB⟩ := Ab hA
   have s1 := A4 hb
   cases b with
   | true =>
    obtain ⟨r, l2, hq1, hC⟩ := Au (show evG (evN n) (.call .line fun r => .call .lines fun l => .ret (r :: l)) l1 = some (.ok (v, l')) from hB)
    have p1 := ih .line _ _ _ (hl.suf s1) (by have := s1.length_le; omega) hq1
    have s2 := (evN_suf hq1).trans s1
    obtain ⟨k, l3, hq2, hD⟩ := Au hC
    have p2 := ih .lines _ _ _ (hl.suf s2) (by have := s2.length_le; omega) hq2
    obtain ⟨rfl, rfl⟩ := An hD
    intro q hq
    rcases List.mem_cons.1 hq with rfl | hq
    ·exact p1.2
    ·exact p2 q hq
   | false =>
    obtain ⟨rfl, rfl⟩ := An (show evG (evN n) (.ret []) l1 = some (.ok (v, l')) from hB)
    intro q hq; cases hq
  | part =>
   have hA : evG (evN n) ((A9 [112, 97, 114, 116]).bind fun _ => nameG.bind fun s => (A9 [123]).bind fun _ => .call .lines fun l => (A9 [125]).bind fun _ => .ret (l.map fun r => ⟨s, r.name, r.kind, r.formula⟩)) l = some (.ok (v, l')) := h
   obtain ⟨_, l1, h1, hB⟩ := Ab hA
   have s1 := A4 h1
   obtain ⟨s, l2, hn, hC⟩ := Ab hB
   have s2 := (A4 hn).trans s1
   obtain ⟨_, l3, h3, hD⟩ := Ab hC
   have s3 := (A4 h3).trans s2
   obtain ⟨k, l4, hq1, hE⟩ := Au hD
   have p1 := ih .lines _ _ _ (hl.suf s3) (by have := s3.length_le; omega) hq1
   obtain ⟨_, l5, _, hF⟩ := Ab hE
   obtain ⟨rfl, rfl⟩ := An hF
   intro q hq
   obtain ⟨r, hr, rfl⟩ := List.mem_map.1 hq
   exact ⟨ev_name hn, p1 r hr⟩
  | parts =>
   have hA : evG (evN n) ((sees2 [112, 97, 114, 116] [112, 97, 114, 116]).bind fun b => if b then .call .part fun l => .call .parts fun m => .ret (l :: m) else .ret []) l = some (.ok (v, l')) := h
   obtain ⟨b, l1, hb, hB⟩ := Ab hA
   have s1 := A4 hb
   cases b with
   | true =>
    obtain ⟨r, l2, hq1, hC⟩ := Au (show evG (evN n) (.call .part fun l => .call .parts fun m => .ret (l :: m)) l1 = some (.ok (v, l')) from hB)
    have p1 := ih .part _ _ _ (hl.suf s1) (by have := s1.length_le; omega) hq1
    have s2 := (evN_suf hq1).trans s1
    obtain ⟨k, l3, hq2, hD⟩ := Au hC
    have p2 := ih .parts _ _ _ (hl.suf s2) (by have := s2.length_le; omega) hq2
    obtain ⟨rfl, rfl⟩ := An hD
    intro q hq
    rcases List.mem_cons.1 hq with rfl | hq
    ·exact p1
    ·exact p2 q hq
   | false =>
    obtain ⟨rfl, rfl⟩ := An (show evG (evN n) (.ret []) l1 = some (.ok (v, l')) from hB)
    intro q hq; cases hq
  | signal =>
   have hA : evG (evN n) ((Ai [105, 110, 112, 117, 116]).bind fun i => (if i then .ret () else A9 [111, 117, 116, 112, 117, 116]).bind fun _ => nameG.bind fun s =>
    ((Ai [58]).bind fun b => if b then numberG else .ret 2).bind fun n => (A9 [59]).bind fun _ => .ret ⟨s, i, n⟩) l = some (.ok (v, l')) := h
   obtain ⟨i, l1, h1, hB⟩ := Ab hA
   have s1 := A4 h1
   obtain ⟨_, l2, h2, hC⟩ := Ab hB
   have s2 := (A4 h2).trans s1
   obtain ⟨s, l3, hn, hD⟩ := Ab hC
   have s3 := (A4 hn).trans s2
   obtain ⟨k, l4, hk, hE⟩ := Ab hD
   have hkk : 0 ≤ k ∧ k ≤ 9999 := by
    obtain ⟨b, l5, hb, hr⟩ := Ab hk
    have s5 := (A4 hb).trans s3
    cases b with
    | true => exact ev_number (show evG (evN n) numberG l5 = some (.ok (k, l4)) from hr) (hl.suf s5)
    | false =>
     obtain ⟨rfl, _⟩ := An (show evG (evN n) (.ret 2) l5 = some (.ok (k, l4)) from hr)
     exact ⟨by omega, by omega⟩
   obtain ⟨_, l5, _, hF⟩ := Ab hE
   obtain ⟨rfl, rfl⟩ := An hF
   exact ⟨ev_name hn, hkk⟩
  | sigs =>
   have hA : evG (evN n) ((sees2 [105, 110, 112, 117, 116] [111, 117, 116, 112, 117, 116]).bind fun b => if b then .call .signal fun x => .call .sigs fun l => .ret (x :: l) else .ret []) l = some (.ok (v, l')) := h
   obtain ⟨b, l1, hb, hB⟩ := Ab hA
   have s1 := A4 hb
   cases b with
   | true =>
    obtain ⟨r, l2, hq1, hC⟩ := Au (show evG (evN n) (.call .signal fun x => .call .sigs fun l => .ret (x :: l)) l1 = some (.ok (v, l')) from hB)
    have p1 := ih .signal _ _ _ (hl.suf s1) (by have := s1.length_le; omega) hq1
    have s2 := (evN_suf hq1).trans s1
    obtain ⟨k, l3, hq2, hD⟩ := Au hC
    have p2 := ih .sigs _ _ _ (hl.suf s2) (by have := s2.length_le; omega) hq2
    obtain ⟨rfl, rfl⟩ := An hD
    intro q hq
    rcases List.mem_cons.1 hq with rfl | hq
    ·exact p1
    ·exact p2 q hq
   | false =>
    obtain ⟨rfl, rfl⟩ := An (show evG (evN n) (.ret []) l1 = some (.ok (v, l')) from hB)
    intro q hq; cases hq
  | spec =>
   have hA : evG (evN n) (.call .sigs fun s => .call .parts fun r => .ret ⟨s, r.flatten⟩) l = some (.ok (v, l')) := h
   obtain ⟨x, l1, hq1, hB⟩ := Au hA
   have p1 := ih .sigs _ _ _ hl hc hq1
   have s1 := evN_suf hq1
   obtain ⟨k, l2, hq2, hC⟩ := Au hB
   have p2 := ih .parts _ _ _ (hl.suf s1) (by have := s1.length_le; omega) hq2
   obtain ⟨rfl, rfl⟩ := An hC
   refine ⟨p1, fun r hr => ?_⟩
   obtain ⟨rs, h1, h2⟩ := List.mem_flatten.1 hr
   exact p2 rs h1 r h2
  | edit =>
   have hA : evG (evN n) ((Ai [100, 114, 111, 112]).bind fun b => if b then nameG.bind fun s => .ret ⟨2, ⟨[], s, 0, zeroF⟩⟩ else
    (Ai [97, 100, 100]).bind fun b => (if b then .ret 1 else (A9 [114, 101, 112, 108, 97, 99, 101]).bind fun _ => .ret 3).bind fun k =>
    nameG.bind fun p => .call .req fun r => .ret ⟨k, ⟨p, r.name, r.kind, r.formula⟩⟩) l = some (.ok (v, l')) := h
   obtain ⟨b, l1, h1, hB⟩ := Ab hA
   have s1 := A4 h1
   cases b with
   | true =>
    obtain ⟨s, l2, hn, hC⟩ := Ab (show evG (evN n) (nameG.bind fun s => .ret ⟨2, ⟨[], s, 0, zeroF⟩⟩) l1 = some (.ok (v, l')) from hB)
    obtain ⟨rfl, rfl⟩ := An hC
    exact .inl ⟨rfl, rfl, rfl, rfl, ev_name hn⟩
   | false =>
    replace hB : evG (evN n) ((Ai [97, 100, 100]).bind fun b => (if b then .ret 1 else (A9 [114, 101, 112, 108, 97, 99, 101]).bind fun _ => .ret 3).bind fun k =>
     nameG.bind fun p => .call .req fun r => .ret ⟨k, ⟨p, r.name, r.kind, r.formula⟩⟩) l1 = some (.ok (v, l')) := hB
    obtain ⟨b, l2, h2, hC⟩ := Ab hB
    have s2 := (A4 h2).trans s1
    obtain ⟨k, l3, hk, hD⟩ := Ab hC
    have s3 := (A4 hk).trans s2
    have hkk : k = 1 ∨ k = 3 := by
     cases b with
     | true => exact .inl (An (show evG (evN n) (.ret 1) l2 = some (.ok (k, l3)) from hk)).1
     | false =>
      obtain ⟨_, l4, _, hr⟩ := Ab (show evG (evN n) ((A9 [114, 101, 112, 108, 97, 99, 101]).bind fun _ => .ret 3) l2 = some (.ok (k, l3)) from hk)
      exact .inr (An hr).1
    obtain ⟨p, l4, hn, hE⟩ := Ab hD
    have s4 := (A4 hn).trans s3
    obtain ⟨r, l5, hq1, hF⟩ := Au hE
    obtain ⟨_, p1⟩ := ih .req _ _ _ (hl.suf s4) (by have := s4.length_le; omega) hq1
    obtain ⟨rfl, rfl⟩ := An hF
    exact .inr ⟨hkk, ev_name hn, p1⟩
theorem run_phi {nt : NT} {l l' : List Tok} {v : nt.T} (hl : NumsOk l) (hc : l.length ≤ 2000) (h : RunN nt l (.ok (v, l'))) : Phi nt v l l' := by
 obtain ⟨n, hn⟩ := h
 exact evN_phi (n + 1) nt l v l' hl hc hn
end Go.Proofs.YtfcgdbmoncnibaaGreatDoor
namespace Go.Proofs.YtfcgdbmoncnibaaGreatDoor
set_option linter.unusedVariables false
end Go.Proofs.YtfcgdbmoncnibaaGreatDoor
namespace Go.Proofs.YtfcgdbmoncnibaaGreatDoor
set_option linter.unusedVariables false
end Go.Proofs.YtfcgdbmoncnibaaGreatDoor
namespace Go.Proofs.YtfcgdbmoncnibaaGreatDoor
set_option linter.unusedVariables false
theorem el_expect {n : Nat} {t : List UInt8} {l l' : List Tok} {u : Unit} (h : evG (evN n) (A9 t) l = some (.ok (u, l'))) : l'.length + 1 ≤ l.length := by
 simp only [A9, evG] at h
 cases l with
 | nil => simp [B6, evG] at h
 | cons x l =>
  split at h
  ·simp only [evG] at h
   obtain ⟨_, rfl⟩ := An (n := n) h
   simp
  ·simp [evG] at h
theorem el_name {n : Nat} {l l' : List Tok} {s : List UInt8} (h : evG (evN n) nameG l = some (.ok (s, l'))) : l'.length + 1 ≤ l.length := by
 simp only [nameG, evG] at h
 cases l with
 | nil => simp [evG] at h
 | cons x l =>
  simp only [List.head?_cons, Option.map_some] at h
  cases hb : (decide ((bare x).1 = 1) && BS (bare x).2) with
  | false => rw [hb] at h; simp [evG] at h
  | true =>
   rw [hb] at h
   simp only [if_true, evG] at h
   obtain ⟨_, rfl⟩ := An (n := n) h
   simp
theorem el_take {n : Nat} {tab : List (List UInt8 × Opr)} {l l' : List Tok} {o : Option Opr} (h : evG (evN n) (takeG tab) l = some (.ok (o, l'))) : (∃ p, o = some p ∧ l'.length + 1 ≤ l.length) ∨ (o = none ∧ l' = l) := by
 simp only [takeG, evG] at h
 cases l with
 | nil =>
  obtain ⟨rfl, rfl⟩ := An (n := n) h
  exact .inr ⟨rfl, rfl⟩
 | cons x l =>
  simp only [List.head?_cons, Option.map_some] at h
  cases hk : tab.lookup (bare x).2 with
  | none =>
   rw [hk] at h
   obtain ⟨rfl, rfl⟩ := An (n := n) h
   exact .inr ⟨rfl, rfl⟩
  | some p =>
   rw [hk] at h
   simp only [evG] at h
   obtain ⟨rfl, rfl⟩ := An (n := n) h
   exact .inl ⟨p, rfl, by simp⟩
def Sz : (nt : NT) → nt.T → Nat
 | .formula, f => szF f
 | .orN, f => szF f
 | .andN, f => szF f
 | .untilN, f => szF f
 | .unary, f => szF f
 | .primary, f => szF f
 | .orL, fs => szL fs + fs.length
 | .andL, fs => szL fs + fs.length
 | .req, r => szF r.formula + 3
 | .line, r => szF r.formula + 4
 | .lines, rs => szR rs
 | .part, rs => szR rs
 | .parts, ps => szR ps.flatten
 | .signal, _ => 1
 | .sigs, xs => xs.length
 | .spec, s => szS s
 | .edit, e => szF e.req.formula
theorem szR_app (l m : List Rqm) : szR (l ++ m) = szR l + szR m := by simp [szR]
theorem evN_sz : ∀ (n : Nat) (nt : NT) (l : List Tok) (v : nt.T) (l' : List Tok), evN n nt l = some (.ok (v, l')) → Sz nt v + l'.length ≤ l.length
 | 0, _, _, _, _, h => by cases h
 | n + 1, nt, l, v, l', h => by
  have ih := evN_sz n
  cases nt with
  | formula =>
   have hA : evG (evN n) (.call .orN fun a => (Ai [45, 62]).bind fun b => if b then .call .formula fun c => .ret ⟨7, [], 0, 0, [a, c]⟩ else .ret a) l = some (.ok (v, l')) := h
   obtain ⟨a, l1, hq1, hB⟩ := Au hA
   have oa := ih .orN _ _ _ hq1
   simp only [Sz] at oa
   obtain ⟨b, l2, hb, hC⟩ := Ab hB
   rcases BU hb with ⟨rfl, x, rfl, _⟩ | ⟨rfl, rfl⟩
   ·obtain ⟨c, l3, hq2, hD⟩ := Au (show evG (evN n) (.call .formula fun c => .ret ⟨7, [], 0, 0, [a, c]⟩) l2 = some (.ok (v, l')) from hC)
    have oc := ih .formula _ _ _ hq2
    obtain ⟨rfl, rfl⟩ := An hD
    simp only [Sz, szF, szL, List.length_cons] at oa oc ⊢
    omega
   ·obtain ⟨rfl, rfl⟩ := An (show evG (evN n) (.ret a) l2 = some (.ok (v, l')) from hC)
    exact oa
  | orN =>
   have hA : evG (evN n) (.call .andN fun a => .call .orL fun l => .ret (nodeF 6 (a :: l))) l = some (.ok (v, l')) := h
   obtain ⟨a, l1, hq1, hB⟩ := Au hA
   have oa := ih .andN _ _ _ hq1
   obtain ⟨k, l2, hq2, hC⟩ := Au hB
   have ok := ih .orL _ _ _ hq2
   obtain ⟨rfl, rfl⟩ := An hC
   cases k with
   | nil =>
    show szF a + _ ≤ _
    simp only [Sz, szL, List.length_nil] at oa ok
    omega
   | cons d k =>
    show szF (.mk 6 [] 0 0 (a :: d :: k)) + _ ≤ _
    simp only [Sz, szF, szL, List.length_cons] at oa ok ⊢
    omega
  | orL =>
   have hA : evG (evN n) ((Ai [124]).bind fun b => if b then .call .andN fun a => .call .orL fun l => .ret (a :: l) else .ret []) l = some (.ok (v, l')) := h
   obtain ⟨b, l2, hb, hB⟩ := Ab hA
   rcases BU hb with ⟨rfl, x, rfl, _⟩ | ⟨rfl, rfl⟩
   ·obtain ⟨a, l3, hq1, hC⟩ := Au (show evG (evN n) (.call .andN fun a => .call .orL fun l => .ret (a :: l)) l2 = some (.ok (v, l')) from hB)
    have oa := ih .andN _ _ _ hq1
    obtain ⟨k, l4, hq2, hD⟩ := Au hC
    have ok := ih .orL _ _ _ hq2
    obtain ⟨rfl, rfl⟩ := An hD
    simp only [Sz, szL, List.length_cons] at oa ok ⊢
    omega
   ·obtain ⟨rfl, rfl⟩ := An (show evG (evN n) (.ret []) l2 = some (.ok (v, l')) from hB)
    simp [Sz, szL]
  | andN =>
   have hA : evG (evN n) (.call .untilN fun a => .call .andL fun l => .ret (nodeF 5 (a :: l))) l = some (.ok (v, l')) := h
   obtain ⟨a, l1, hq1, hB⟩ := Au hA
   have oa := ih .untilN _ _ _ hq1
   obtain ⟨k, l2, hq2, hC⟩ := Au hB
   have ok := ih .andL _ _ _ hq2
   obtain ⟨rfl, rfl⟩ := An hC
   cases k with
   | nil =>
    show szF a + _ ≤ _
    simp only [Sz, szL, List.length_nil] at oa ok
    omega
   | cons d k =>
    show szF (.mk 5 [] 0 0 (a :: d :: k)) + _ ≤ _
    simp only [Sz, szF, szL, List.length_cons] at oa ok ⊢
    omega
  | andL =>
   have hA : evG (evN n) ((Ai [38]).bind fun b => if b then .call .untilN fun a => .call .andL fun l => .ret (a :: l) else .ret []) l = some (.ok (v, l')) := h
   obtain ⟨b, l2, hb, hB⟩ := Ab hA
   rcases BU hb with ⟨rfl, x, rfl, _⟩ | ⟨rfl, rfl⟩
   ·obtain ⟨a, l3, hq1, hC⟩ := Au (show evG (evN n) (.call .untilN fun a => .call .andL fun l => .ret (a :: l)) l2 = some (.ok (v, l')) from hB)
    have oa := ih .untilN _ _ _ hq1
    obtain ⟨k, l4, hq2, hD⟩ := Au hC
    have ok := ih .andL _ _ _ hq2
    obtain ⟨rfl, rfl⟩ := An hD
    simp only [Sz, szL, List.length_cons] at oa ok ⊢
    omega
   ·obtain ⟨rfl, rfl⟩ := An (show evG (evN n) (.ret []) l2 = some (.ok (v, l')) from hB)
    simp [Sz, szL]
  | untilN =>
   have hA : evG (evN n) (.call .unary fun a => (takeG infixT).bind fun
    | none => .ret a
    | some o => (C3 o).bind fun n => .call .untilN fun c => .ret ⟨o.op, [], n.getD o.val, 0, [a, c]⟩) l = some (.ok (v, l')) := h
   obtain ⟨a, l1, hq1, hB⟩ := Au hA
   have oa := ih .unary _ _ _ hq1
   obtain ⟨o, l2, hb, hC⟩ := Ab hB
   rcases el_take hb with ⟨p, rfl, c2⟩ | ⟨rfl, rfl⟩
   ·obtain ⟨k, l3, hk, hD⟩ := Ab (show evG (evN n) ((C3 p).bind fun n => .call .untilN fun c => .ret ⟨p.op, [], n.getD p.val, 0, [a, c]⟩) l2 = some (.ok (v, l')) from hC)
    have c3 := (A4 hk).length_le
    obtain ⟨c, l4, hq2, hE⟩ := Au hD
    have oc := ih .untilN _ _ _ hq2
    obtain ⟨rfl, rfl⟩ := An hE
    simp only [Sz, szF, szL] at oa oc ⊢
    omega
   ·obtain ⟨rfl, rfl⟩ := An (show evG (evN n) (.ret a) l2 = some (.ok (v, l')) from hC)
    exact oa
  | unary =>
   have hA : evG (evN n) ((takeG prefixT).bind fun
    | none => .call .primary .ret
    | some o => (C3 o).bind fun n => .call .unary fun a => .ret (match n with
     | some n => ⟨o.indexed, [], o.val, n, [a]⟩
     | none => ⟨o.op, [], o.val, 0, [a]⟩)) l = some (.ok (v, l')) := h
   obtain ⟨o, l2, hb, hC⟩ := Ab hA
   rcases el_take hb with ⟨p, rfl, c2⟩ | ⟨rfl, rfl⟩
   ·obtain ⟨k, l3, hk, hD⟩ := Ab (show evG (evN n) ((C3 p).bind fun n => .call .unary fun a => .ret (match n with
     | some n => ⟨p.indexed, [], p.val, n, [a]⟩
     | none => ⟨p.op, [], p.val, 0, [a]⟩)) l2 = some (.ok (v, l')) from hC)
    have c3 := (A4 hk).length_le
    obtain ⟨c, l4, hq2, hE⟩ := Au hD
    have oc := ih .unary _ _ _ hq2
    obtain ⟨e1, rfl⟩ := An hE
    have hv : szF v = szF c + 1 := by
     rw [e1]
     cases k <;> simp [szF, szL]
    show szF v + _ ≤ _
    simp only [Sz] at oc
    omega
   ·obtain ⟨a, l3, hq1, hD⟩ := Au (show evG (evN n) (.call .primary .ret) l2 = some (.ok (v, l')) from hC)
    obtain ⟨rfl, rfl⟩ := An hD
    exact ih .primary _ _ _ hq1
  | primary =>
   have hA : evG (evN n) ((Ai [116, 114, 117, 101]).bind fun b => if b then .ret ⟨1, [], 0, 0, []⟩ else
    (Ai [102, 97, 108, 115, 101]).bind fun b => if b then .ret ⟨2, [], 0, 0, []⟩ else
    (Ai [40]).bind fun b => if b then .call .formula fun f => (A9 [41]).bind fun _ => .ret f else
    nameG.bind fun s => (Ai [61]).bind fun b => if b then numberG.bind fun n => .ret (isF s n) else
    (Ai [33, 61]).bind fun b => if b then numberG.bind fun n => .ret (notF (isF s n)) else .ret (isF s 1)) l = some (.ok (v, l')) := h
   obtain ⟨b, l1, hb1, hB⟩ := Ab hA
   rcases BU hb1 with ⟨rfl, x, rfl, _⟩ | ⟨rfl, rfl⟩
   ·obtain ⟨rfl, rfl⟩ := An (show evG (evN n) (.ret ⟨1, [], 0, 0, []⟩) l1 = some (.ok (v, l')) from hB)
    simp [Sz, szF, szL]; omega
   replace hB : evG (evN n) ((Ai [102, 97, 108, 115, 101]).bind fun b => if b then .ret ⟨2, [], 0, 0, []⟩ else
    (Ai [40]).bind fun b => if b then .call .formula fun f => (A9 [41]).bind fun _ => .ret f else
    nameG.bind fun s => (Ai [61]).bind fun b => if b then numberG.bind fun n => .ret (isF s n) else
    (Ai [33, 61]).bind fun b => if b then numberG.bind fun n => .ret (notF (isF s n)) else .ret (isF s 1)) l1 = some (.ok (v, l')) := hB
   obtain ⟨b, l2, hb2, hC⟩ := Ab hB
   rcases BU hb2 with ⟨rfl, x, rfl, _⟩ | ⟨rfl, rfl⟩
   ·obtain ⟨rfl, rfl⟩ := An (show evG (evN n) (.ret ⟨2, [], 0, 0, []⟩) l2 = some (.ok (v, l')) from hC)
    simp [Sz, szF, szL]; omega
   replace hC : evG (evN n) ((Ai [40]).bind fun b => if b then .call .formula fun f => (A9 [41]).bind fun _ => .ret f else
    nameG.bind fun s => (Ai [61]).bind fun b => if b then numberG.bind fun n => .ret (isF s n) else
    (Ai [33, 61]).bind fun b => if b then numberG.bind fun n => .ret (notF (isF s n)) else .ret (isF s 1)) l2 = some (.ok (v, l')) := hC
   obtain ⟨b, l3, hb3, hD⟩ := Ab hC
   rcases BU hb3 with ⟨rfl, x, rfl, hx⟩ | ⟨rfl, rfl⟩
   ·obtain ⟨f, l4, hq1, hE⟩ := Au (show evG (evN n) (.call .formula fun f => (A9 [41]).bind fun _ => .ret f) l3 = some (.ok (v, l')) from hD)
    have of := ih .formula _ _ _ hq1
    obtain ⟨_, l5, hq2, hF⟩ := Ab hE
    have c5 := el_expect hq2
    obtain ⟨rfl, rfl⟩ := An hF
    simp only [Sz, List.length_cons] at of ⊢
    omega
   replace hD : evG (evN n) (nameG.bind fun s => (Ai [61]).bind fun b => if b then numberG.bind fun n => .ret (isF s n) else
    (Ai [33, 61]).bind fun b => if b then numberG.bind fun n => .ret (notF (isF s n)) else .ret (isF s 1)) l3 = some (.ok (v, l')) := hD
   obtain ⟨s, l4, hn, hE⟩ := Ab hD
   have c4 := el_name hn
   obtain ⟨b, l5, hb5, hF⟩ := Ab hE
   rcases BU hb5 with ⟨rfl, x, rfl, hx⟩ | ⟨rfl, rfl⟩
   ·obtain ⟨k, l6, hk, hG⟩ := Ab (show evG (evN n) (numberG.bind fun n => .ret (isF s n)) l5 = some (.ok (v, l')) from hF)
    have c6 := (A4 hk).length_le
    obtain ⟨rfl, rfl⟩ := An hG
    simp only [List.length_cons] at c4
    simp [Sz, isF, szF, szL]; omega
   replace hF : evG (evN n) ((Ai [33, 61]).bind fun b => if b then numberG.bind fun n => .ret (notF (isF s n)) else .ret (isF s 1)) l5 = some (.ok (v, l')) := hF
   obtain ⟨b, l6, hb6, hG⟩ := Ab hF
   rcases BU hb6 with ⟨rfl, x, rfl, hx⟩ | ⟨rfl, rfl⟩
   ·obtain ⟨k, l7, hk, hH⟩ := Ab (show evG (evN n) (numberG.bind fun n => .ret (notF (isF s n))) l6 = some (.ok (v, l')) from hG)
    have c7 := (A4 hk).length_le
    obtain ⟨rfl, rfl⟩ := An hH
    simp only [List.length_cons] at c4
    simp [Sz, isF, notF, szF, szL]; omega
   ·obtain ⟨rfl, rfl⟩ := An (show evG (evN n) (.ret (isF s 1)) l6 = some (.ok (v, l')) from hG)
    simp [Sz, isF, szF, szL]; omega
  | req =>
   have hA : evG (evN n) ((Ai [97, 115, 115, 117, 109, 101]).bind fun b => (if b then .ret 1 else (A9 [103, 117, 97, 114, 97, 110, 116, 101, 101]).bind fun _ => .ret 2).bind fun k =>
    nameG.bind fun s => (A9 [58]).bind fun _ => .call .formula fun f => .ret ⟨[], s, k, f⟩) l = some (.ok (v, l')) := h
   obtain ⟨b, l1, hb1, hB⟩ := Ab hA
   obtain ⟨k, l2, hk, hC⟩ := Ab hB
   have hkk : l2.length + 1 ≤ l.length := by
    rcases BU hb1 with ⟨rfl, x, rfl, _⟩ | ⟨rfl, rfl⟩
    ·have := (A4 hk).length_le
     simp only [List.length_cons]; omega
    ·obtain ⟨_, l3, he, hr⟩ := Ab (show evG (evN n) ((A9 [103, 117, 97, 114, 97, 110, 116, 101, 101]).bind fun _ => .ret 2) l1 = some (.ok (k, l2)) from hk)
     have := el_expect he
     have := (A4 hr).length_le
     omega
   obtain ⟨s, l3, hn, hD⟩ := Ab hC
   have c3 := el_name hn
   obtain ⟨_, l4, he, hE⟩ := Ab hD
   have c4 := el_expect he
   obtain ⟨f, l5, hq1, hF⟩ := Au hE
   have of := ih .formula _ _ _ hq1
   obtain ⟨rfl, rfl⟩ := An hF
   simp only [Sz] at of ⊢
   omega
  | line =>
   have hA : evG (evN n) (.call .req fun r => (A9 [59]).bind fun _ => .ret r) l = some (.ok (v, l')) := h
   obtain ⟨r, l1, hq1, hB⟩ := Au hA
   obtain ⟨_, l2, he, hC⟩ := Ab hB
   have c2 := el_expect he
   obtain ⟨rfl, rfl⟩ := An hC
   have := ih .req _ _ _ hq1
   simp only [Sz] at this ⊢
   omega
  | lines =>
   have hA : evG (evN n) ((sees2 [97, 115, 115, 117, 109, 101] [103, 117, 97, 114, 97, 110, 116, 101, 101]).bind fun b => if b then .call .line fun r => .call .lines fun l => .ret (r :: l) else .ret []) l = some (.ok (v, l')) := h
   obtain ⟨b, l1, hb, hB⟩ := Ab hA
   have s1 := (A4 hb).length_le
   cases b with
   | true =>
    obtain ⟨r, l2, hq1, hC⟩ := Au (show evG (evN n) (.call .line fun r => .call .lines fun l => .ret (r :: l)) l1 = some (.ok (v, l')) from hB)
    have p1 := ih .line _ _ _ hq1
    obtain ⟨k, l3, hq2, hD⟩ := Au hC
    have p2 := ih .lines _ _ _ hq2
    obtain ⟨rfl, rfl⟩ := An hD
    simp only [Sz, szR, List.map_cons, List.sum_cons] at p1 p2 ⊢
    omega
   | false =>
    obtain ⟨rfl, rfl⟩ := An (show evG (evN n) (.ret []) l1 = some (.ok (v, l')) from hB)
    simp only [Sz, szR, List.map_nil, List.sum_nil]; omega
  | part =>
   have hA : evG (evN n) ((A9 [112, 97, 114, 116]).bind fun _ => nameG.bind fun s => (A9 [123]).bind fun _ => .call .lines fun l => (A9 [125]).bind fun _ => .ret (l.map fun r => ⟨s, r.name, r.kind, r.formula⟩)) l = some (.ok (v, l')) := h
   obtain ⟨_, l1, h1, hB⟩ := Ab hA
   have s1 := (A4 h1).length_le
   obtain ⟨s, l2, hn, hC⟩ := Ab hB
   have s2 := (A4 hn).length_le
   obtain ⟨_, l3, h3, hD⟩ := Ab hC
   have s3 := (A4 h3).length_le
   obtain ⟨k, l4, hq1, hE⟩ := Au hD
   have p1 := ih .lines _ _ _ hq1
   obtain ⟨_, l5, h5, hF⟩ := Ab hE
   have s5 := (A4 h5).length_le
   obtain ⟨rfl, rfl⟩ := An hF
   simp only [Sz, szR, List.map_map] at p1 ⊢
   simp only [Function.comp_def]
   omega
  | parts =>
   have hA : evG (evN n) ((sees2 [112, 97, 114, 116] [112, 97, 114, 116]).bind fun b => if b then .call .part fun l => .call .parts fun m => .ret (l :: m) else .ret []) l = some (.ok (v, l')) := h
   obtain ⟨b, l1, hb, hB⟩ := Ab hA
   have s1 := (A4 hb).length_le
   cases b with
   | true =>
    obtain ⟨r, l2, hq1, hC⟩ := Au (show evG (evN n) (.call .part fun l => .call .parts fun m => .ret (l :: m)) l1 = some (.ok (v, l')) from hB)
    have p1 := ih .part _ _ _ hq1
    obtain ⟨k, l3, hq2, hD⟩ := Au hC
    have p2 := ih .parts _ _ _ hq2
    obtain ⟨rfl, rfl⟩ := An hD
    simp only [Sz, List.flatten_cons, szR_app] at p1 p2 ⊢
    omega
   | false =>
    obtain ⟨rfl, rfl⟩ := An (show evG (evN n) (.ret []) l1 = some (.ok (v, l')) from hB)
    simp only [Sz, szR, List.flatten_nil, List.map_nil, List.sum_nil]; omega
  | signal =>
   have hA : evG (evN n) ((Ai [105, 110, 112, 117, 116]).bind fun i => (if i then .ret () else A9 [111, 117, 116, 112, 117, 116]).bind fun _ => nameG.bind fun s =>
    ((Ai [58]).bind fun b => if b then numberG else .ret 2).bind fun n => (A9 [59]).bind fun _ => .ret ⟨s, i, n⟩) l = some (.ok (v, l')) := h
   obtain ⟨i, l1, h1, hB⟩ := Ab hA
   have s1 := (A4 h1).length_le
   obtain ⟨_, l2, h2, hC⟩ := Ab hB
   have s2 := (A4 h2).length_le
   obtain ⟨s, l3, hn, hD⟩ := Ab hC
   have s3 := el_name hn
   obtain ⟨k, l4, hk, hE⟩ := Ab hD
   have s4 := (A4 hk).length_le
   obtain ⟨_, l5, h5, hF⟩ := Ab hE
   have s5 := (A4 h5).length_le
   obtain ⟨rfl, rfl⟩ := An hF
   simp only [Sz]; omega
  | sigs =>
   have hA : evG (evN n) ((sees2 [105, 110, 112, 117, 116] [111, 117, 116, 112, 117, 116]).bind fun b => if b then .call .signal fun x => .call .sigs fun l => .ret (x :: l) else .ret []) l = some (.ok (v, l')) := h
   obtain ⟨b, l1, hb, hB⟩ := Ab hA
   have s1 := (A4 hb).length_le
   cases b with
   | true =>
    obtain ⟨r, l2, hq1, hC⟩ := Au (show evG (evN n) (.call .signal fun x => .call .sigs fun l => .ret (x :: l)) l1 = some (.ok (v, l')) from hB)
    have p1 := ih .signal _ _ _ hq1
    obtain ⟨k, l3, hq2, hD⟩ := Au hC
    have p2 := ih .sigs _ _ _ hq2
    obtain ⟨rfl, rfl⟩ := An hD
    simp only [Sz, List.length_cons] at p1 p2 ⊢
    omega
   | false =>
    obtain ⟨rfl, rfl⟩ := An (show evG (evN n) (.ret []) l1 = some (.ok (v, l')) from hB)
    simp only [Sz, List.length_nil]; omega
  | spec =>
   have hA : evG (evN n) (.call .sigs fun s => .call .parts fun r => .ret ⟨s, r.flatten⟩) l = some (.ok (v, l')) := h
   obtain ⟨x, l1, hq1, hB⟩ := Au hA
   have p1 := ih .sigs _ _ _ hq1
   obtain ⟨k, l2, hq2, hC⟩ := Au hB
   have p2 := ih .parts _ _ _ hq2
   obtain ⟨rfl, rfl⟩ := An hC
   simp only [Sz, szS] at p1 p2 ⊢
   omega
  | edit =>
   have hA : evG (evN n) ((Ai [100, 114, 111, 112]).bind fun b => if b then nameG.bind fun s => .ret ⟨2, ⟨[], s, 0, zeroF⟩⟩ else
    (Ai [97, 100, 100]).bind fun b => (if b then .ret 1 else (A9 [114, 101, 112, 108, 97, 99, 101]).bind fun _ => .ret 3).bind fun k =>
    nameG.bind fun p => .call .req fun r => .ret ⟨k, ⟨p, r.name, r.kind, r.formula⟩⟩) l = some (.ok (v, l')) := h
   obtain ⟨b, l1, h1, hB⟩ := Ab hA
   have s1 := (A4 h1).length_le
   cases b with
   | true =>
    obtain ⟨s, l2, hn, hC⟩ := Ab (show evG (evN n) (nameG.bind fun s => .ret ⟨2, ⟨[], s, 0, zeroF⟩⟩) l1 = some (.ok (v, l')) from hB)
    have := el_name hn
    obtain ⟨rfl, rfl⟩ := An hC
    simp only [Sz, zeroF, szF, szL]; omega
   | false =>
    replace hB : evG (evN n) ((Ai [97, 100, 100]).bind fun b => (if b then .ret 1 else (A9 [114, 101, 112, 108, 97, 99, 101]).bind fun _ => .ret 3).bind fun k =>
     nameG.bind fun p => .call .req fun r => .ret ⟨k, ⟨p, r.name, r.kind, r.formula⟩⟩) l1 = some (.ok (v, l')) := hB
    obtain ⟨b, l2, h2, hC⟩ := Ab hB
    have s2 := (A4 h2).length_le
    obtain ⟨k, l3, hk, hD⟩ := Ab hC
    have s3 := (A4 hk).length_le
    obtain ⟨p, l4, hn, hE⟩ := Ab hD
    have s4 := (A4 hn).length_le
    obtain ⟨r, l5, hq1, hF⟩ := Au hE
    have p1 := ih .req _ _ _ hq1
    obtain ⟨rfl, rfl⟩ := An hF
    simp only [Sz] at p1 ⊢
    omega
theorem run_sz {nt : NT} {l l' : List Tok} {v : nt.T} (h : RunN nt l (.ok (v, l'))) : Sz nt v + l'.length ≤ l.length := by
 obtain ⟨n, hn⟩ := h
 exact evN_sz (n + 1) nt l v l' hn
end Go.Proofs.YtfcgdbmoncnibaaGreatDoor
namespace Go.Proofs.YtfcgdbmoncnibaaGreatDoor
open Go.RowKit
set_option linter.unusedVariables false
variable {mk : Prop} [MK mk]
theorem in_ok (w : World) (v : Value) (l : List (List UInt8)) (s : List UInt8) (hT : Sl BH w v l.length (l.map AM)) : Fn Tryz.prog 86 [v, AM s] w fun v w' => v = .bool (decide (s ∈ l)) ∧ w' = w := by
 obtain ⟨a, c, rfl, hc1, hc2, _, hcc⟩ := hT
 refine Ad Tryz.func86 rfl Tryz.ntmps86 (Nat.le_of_ble_eq_true rfl) (by kernel_rfl) ?_
 repeat refine nx rfl ?_
 refine AA (AB (AC rfl ?_))
 repeat refine nx rfl ?_
 refine AA (AB (AH rfl ?_))
 repeat refine nx rfl ?_
 refine BY (α := Nat) (fun k => [(0, .slice a l.length c), (1, AM s), (5, .int .i64 (k : Int))]) (fun k W => k ≤ l.length ∧ s ∉ l.take k ∧ W = w) (fun k => l.length - k) 0 ⟨rfl, rfl, rfl, trivial⟩ ⟨by omega, by simp, rfl⟩ ?_
 rintro k w2 f2 ⟨hk, hn, rfl⟩
 repeat refine nx rfl ?_
 by_cases hlt : k < l.length
 ·obtain ⟨b, o, rfl, _, hcell⟩ := hcc.resolve_left (by omega)
  obtain ⟨y, hy⟩ : ∃ y, l[k]? = some y := ⟨_, List.getElem?_eq_getElem hlt⟩
  have hyc : w2.cell? ⟨b, o + k, none⟩ = some (AM y) := hcell k _ (by simp [hy])
  have ht1 : l.take (k + 1) = l.take k ++ [y] := by rw [List.take_add_one, hy]; rfl
  refine AA (AH rfl (Ah rfl (As rfl (BM rfl rfl (by omega) ?_))))
  repeat refine nx rfl ?_
  by_cases hys : y = s
  ·(refine AA (Ah rfl (AH rfl (W_idx1 rfl rfl rfl (by omega) (AG rfl (by assumption) ?_)))) <;> refine AY rfl ?_ <;> refine CK rfl rfl (fun hc => ?_) (fun hc => ?_) <;> refine AI ?_)
   case refine_2 => exact absurd hys (by assumption)
   repeat refine nx rfl ?_
   refine AA (AB (AC rfl ?_))
   repeat refine nx rfl ?_
   exact AP rfl ⟨by rw [decide_eq_true (List.mem_of_getElem? (hys ▸ hy) : s ∈ l)]; rfl, rfl⟩
  ·(refine AA (Ah rfl (AH rfl (W_idx1 rfl rfl rfl (by omega) (AG rfl (by assumption) ?_)))) <;> refine AY rfl ?_ <;> refine CK rfl rfl (fun hc => ?_) (fun hc => ?_) <;> refine AI ?_)
   case refine_1 => exact absurd (by assumption) hys
   repeat first | refine nx rfl ?_ | refine nf rfl ?_
   (refine AA (AH rfl (BR rfl rfl (by first | exact Al (by omega) (by omega) | exact At (by omega) (by omega) | exact Am (by omega) (by omega)) ?_)) <;> refine AB (AH rfl ?_))
   repeat refine nx rfl ?_
   refine ⟨k + 1, ⟨rfl, ⟨rfl, rfl, ?_, trivial⟩, ⟨by omega, by rw [ht1]; simp [hn]; exact fun e => hys e.symm, rfl⟩⟩, by omega⟩
   show Value.int .i64 ((k : Int) + 1) = _
   rw [Int.natCast_add]; rfl
 ·obtain rfl : k = l.length := by omega
  refine AA (AH rfl (Ah rfl (As rfl (BN rfl rfl (by omega) ?_))))
  repeat first | refine nx rfl ?_ | refine nf rfl ?_
  refine AA (AB (AC rfl ?_))
  repeat refine nx rfl ?_
  rw [List.take_length] at hn
  exact AP rfl ⟨by rw [decide_eq_false hn]; rfl, rfl⟩
theorem keywords_ok (w : World) : Fn Tryz.prog 87 [] w fun v w' => Sl BH w' v keysL.length (keysL.map AM) ∧ Ext w w' := by
 refine Ad Tryz.func87 rfl Tryz.ntmps87 (Nat.le_of_ble_eq_true rfl) (by kernel_rfl) ?_
 repeat refine nx rfl ?_
 refine AA (AB (Ah rfl ?_))
 repeat refine nx rfl ?_
 refine AA ?_
 refine W_buildSlice1 (out := keysL.map AM) rfl (by omega) rfl (by kernel_rfl) (fun w1 n1 => ?_)
 refine AB (Ah rfl ?_)
 repeat refine nx rfl ?_
 exact AP rfl ⟨⟨_, _, rfl, by decide, by decide, (fun h => by cases h), .inr ⟨_, _, rfl, trivial, n1.blk.cells⟩⟩, n1.keep⟩
theorem refName_ok (s : List UInt8) (w : World) : Fn Tryz.prog 53 [AM s] w fun v w' => v = .bool (BS s) ∧ Ext w w' := by
 refine Ad Tryz.func53 rfl Tryz.ntmps53 (Nat.le_of_ble_eq_true rfl) (by kernel_rfl) ?_
 repeat refine nx rfl ?_
 refine AA (AB (AC rfl ?_))
 repeat refine nx rfl ?_
 by_cases h1 : s.length < 1
 ·refine AA (AY rfl (Bb rfl (BM rfl rfl (by omega) (AC rfl (AJ rfl (AJ rfl (AJ rfl (AO rfl (AC rfl (AC rfl (AJ rfl (AJ rfl (AJ rfl (AO rfl (AC rfl ?_)))))))))))))))
  repeat refine nx rfl ?_
  refine AA (AB (AC rfl ?_))
  repeat refine nx rfl ?_
  exact AP rfl ⟨by rw [Cs, decide_eq_false (show ¬ 1 ≤ s.length by omega)]; rfl, Ext.refl _⟩
 by_cases h12 : 12 < s.length
 ·refine AA (AY rfl (Bb rfl (BN rfl rfl (by omega) (AC rfl (AE rfl (AY rfl (AE rfl (Bb rfl (AE rfl (W_gtrT rfl rfl (by omega) (AQ rfl (AC rfl (AC rfl (AJ rfl (AJ rfl (AJ rfl (AO rfl (AC rfl ?_))))))))))))))))))
  repeat refine nx rfl ?_
  refine AA (AB (AC rfl ?_))
  repeat refine nx rfl ?_
  exact AP rfl ⟨by rw [Cs, decide_eq_false (show ¬ s.length ≤ 12 by omega)]; simp [upd, Nat.beq], Ext.refl _⟩
 refine AA (AY rfl (Bb rfl (BN rfl rfl (by omega) (AC rfl (AE rfl (AY rfl (AE rfl (Bb rfl (AE rfl (W_gtrF rfl rfl (by omega) (AQ rfl (AC rfl (AC rfl ?_)))))))))))))
 refine AE rfl (AS (keywords_ok w) rfl ?_)
 rintro v w1 ⟨hS, k1⟩
 obtain ⟨va, vc, rfl, _⟩ := id hS
 refine AE rfl (AY rfl ?_)
 refine AE rfl (AS (in_ok w1 _ keysL s hS) rfl ?_)
 rintro _ wx ⟨rfl, hw⟩
 obtain rfl := hw.symm
 refine AQ rfl (AC rfl (AI ?_))
 by_cases hkey : s ∈ keysL
 ·rw [decide_eq_true hkey]
  repeat refine nx rfl ?_
  refine AA (AB (AC rfl ?_))
  repeat refine nx rfl ?_
  exact AP rfl ⟨by rw [Cs, decide_eq_true hkey]; simp [upd, Nat.beq], k1⟩
 rw [decide_eq_false hkey]
 repeat first | refine nx rfl ?_ | refine nf rfl ?_
 refine AA (AB (AH rfl ?_))
 repeat refine nx rfl ?_
 refine BY (α := Nat) (fun k => [(0, AM s), (3, .int .i64 (k : Int))]) (fun k W => k ≤ s.length ∧ (∀ (i : Nat) (c : UInt8), i < k → s[i]? = some c → okAt i c = true) ∧ W = w1) (fun k => s.length - k) 0 ⟨rfl, rfl, trivial⟩ ⟨by omega, fun i c hi => by omega, rfl⟩ ?_
 rintro k w2 f2 ⟨hk, hok, rfl⟩
 repeat refine nx rfl ?_
 by_cases hlt : k < s.length
 ·have hc0 : s[k]? = some s[k] := List.getElem?_eq_getElem hlt
  generalize s[k] = c at hc0
  have cb := c.toNat_lt
  have step : okAt k c = true → ∀ (i : Nat) (d : UInt8), i < k + 1 → s[i]? = some d → okAt i d = true := fun hkc i d hi hd => by
   by_cases hik : i = k
   ·subst hik; rw [hc0] at hd; cases hd; exact hkc
   ·exact hok i d (by omega) hd
  refine AA (AH rfl (AY rfl (Bb rfl (BM rfl rfl (by omega) ?_))))
  repeat refine nx rfl ?_
  refine CV (α := Unit) (fun _ => [(0, AM s), (3, .int .i64 (k : Int)), (4, .bool (BK c))]) (fun _ W => w2 = W) ?_ ?_
  ·by_cases ha : 97 ≤ c.toNat
   ·by_cases hb : c.toNat ≤ 122
    ·rw [show BK c = true by simp [BK, ha, hb]]
     (refine AA (AY rfl (AH rfl (Be rfl rfl (by assumption) ?_))) <;> refine W_geqT rfl rfl (by omega) (AC rfl (AE rfl (AY rfl (AE rfl (AH rfl (AE rfl (Be rfl rfl (by assumption) ?_))))))) <;> refine AE rfl (W_leqT rfl rfl (by omega) (AO rfl (AC rfl (AB (AC rfl (AI ?_)))))))
     exact Ar () ⟨rfl, rfl, rfl, trivial⟩ rfl
    ·rw [show BK c = false by simp [BK, ha, hb]]
     (refine AA (AY rfl (AH rfl (Be rfl rfl (by assumption) ?_))) <;> refine W_geqT rfl rfl (by omega) (AC rfl (AE rfl (AY rfl (AE rfl (AH rfl (AE rfl (Be rfl rfl (by assumption) ?_))))))) <;> refine AE rfl (W_leqF rfl rfl (by omega) (AO rfl (AC rfl (AB (AC rfl (AI ?_)))))))
     exact Ar () ⟨rfl, rfl, rfl, trivial⟩ rfl
   ·rw [show BK c = false by simp [BK, ha]]
    (refine AA (AY rfl (AH rfl (Be rfl rfl (by assumption) ?_))) <;> refine W_geqF rfl rfl (by omega) (AC rfl (AJ rfl (AJ rfl (AJ rfl (AJ rfl (AQ rfl (AC rfl (AB (AC rfl (AI ?_)))))))))))
    exact Ar () ⟨rfl, rfl, rfl, trivial⟩ rfl
  rintro _ _ f3 rfl
  repeat refine nx rfl ?_
  refine CV (α := Unit) (fun _ => [(0, AM s), (3, .int .i64 (k : Int)), (4, .bool (BK c)), (5, .bool (A0 c || decide (c.toNat = 95)))]) (fun _ W => w2 = W) ?_ ?_
  ·by_cases ha : 48 ≤ c.toNat
   ·by_cases hb : c.toNat ≤ 57
    ·rw [show (A0 c || decide (c.toNat = 95)) = true by simp [A0, ha, hb]]
     (refine AA (AY rfl (AH rfl (Be rfl rfl (by assumption) ?_))) <;> refine W_geqT rfl rfl (by omega) (AC rfl (AE rfl (AY rfl (AE rfl (AH rfl (AE rfl (Be rfl rfl (by assumption) ?_))))))) <;> refine AE rfl (W_leqT rfl rfl (by omega) (AO rfl (AC rfl (AC rfl (AJ rfl (AJ rfl (AJ rfl (AJ rfl (AO rfl (AC rfl (AB (AC rfl (AI ?_))))))))))))))
     exact Ar () ⟨rfl, rfl, rfl, rfl, trivial⟩ rfl
    ·by_cases hu : c.toNat = 95
     ·rw [show (A0 c || decide (c.toNat = 95)) = true by simp [hu]]
      (refine AA (AY rfl (AH rfl (Be rfl rfl (by assumption) ?_))) <;> refine W_geqT rfl rfl (by omega) (AC rfl (AE rfl (AY rfl (AE rfl (AH rfl (AE rfl (Be rfl rfl (by assumption) ?_))))))) <;> refine AE rfl (W_leqF rfl rfl (by omega) (AO rfl (AC rfl (AC rfl (AE rfl (AY rfl (AE rfl (AH rfl (AE rfl (Be rfl rfl (by assumption) ?_)))))))))) <;> refine AE rfl (Av rfl rfl (by omega) (AQ rfl (AC rfl (AB (AC rfl (AI ?_)))))))
      exact Ar () ⟨rfl, rfl, rfl, rfl, trivial⟩ rfl
     ·rw [show (A0 c || decide (c.toNat = 95)) = false by simp [A0, hu, ha, hb]]
      (refine AA (AY rfl (AH rfl (Be rfl rfl (by assumption) ?_))) <;> refine W_geqT rfl rfl (by omega) (AC rfl (AE rfl (AY rfl (AE rfl (AH rfl (AE rfl (Be rfl rfl (by assumption) ?_))))))) <;> refine AE rfl (W_leqF rfl rfl (by omega) (AO rfl (AC rfl (AC rfl (AE rfl (AY rfl (AE rfl (AH rfl (AE rfl (Be rfl rfl (by assumption) ?_)))))))))) <;> refine AE rfl (AL rfl rfl (by omega) (AQ rfl (AC rfl (AB (AC rfl (AI ?_)))))))
      exact Ar () ⟨rfl, rfl, rfl, rfl, trivial⟩ rfl
   ·rw [show (A0 c || decide (c.toNat = 95)) = false by simp [A0, ha]; omega]
    (refine AA (AY rfl (AH rfl (Be rfl rfl (by assumption) ?_))) <;> refine W_geqF rfl rfl (by omega) (AC rfl (AJ rfl (AJ rfl (AJ rfl (AJ rfl (AQ rfl (AC rfl (AC rfl (AE rfl (AY rfl (AE rfl (AH rfl (AE rfl (Be rfl rfl (by assumption) ?_)))))))))))))) <;> refine AE rfl (AL rfl rfl (by omega) (AQ rfl (AC rfl (AB (AC rfl (AI ?_)))))))
    exact Ar () ⟨rfl, rfl, rfl, rfl, trivial⟩ rfl
  rintro _ _ f4 rfl
  repeat refine nx rfl ?_
  have hbad : okAt k c = false → BS s = false := fun h => by
   have hsh : shapeB s = false := by
    cases hsb : shapeB s with
    | false => rfl
    | true => rw [(shapeB_iff s (by omega)).1 hsb k c hc0] at h; cases h
   rw [Cs, hsh]; simp
  have hoke : okAt k c = (BK c || (decide (0 < k) && (A0 c || decide (c.toNat = 95)))) := rfl
  cases hsm : BK c with
  | true =>
   refine AA (AC rfl (BL rfl (AC rfl (AJ rfl (AJ rfl (AJ rfl (AJ rfl (AJ rfl (AJ rfl (AQ rfl (AC rfl ?_)))))))))))
   repeat first | refine nx rfl ?_ | refine nf rfl ?_
   (refine AA (AH rfl (BR rfl rfl (by first | exact Al (by omega) (by omega) | exact At (by omega) (by omega) | exact Am (by omega) (by omega)) ?_)) <;> refine AB (AH rfl ?_))
   repeat refine nx rfl ?_
   refine ⟨k + 1, ⟨rfl, ⟨rfl, ?_, trivial⟩, ⟨by omega, step (by rw [hoke, hsm]; rfl), rfl⟩⟩, by omega⟩
   show Value.int .i64 ((k : Int) + 1) = _
   rw [Int.natCast_add]; rfl
  | false =>
   by_cases hk0 : k = 0
   ·have hb := hbad (by rw [hoke, hsm, decide_eq_false (show ¬ 0 < k by omega)]; rfl)
    refine AA (AC rfl (BL rfl (AC rfl (AE rfl (AH rfl (AE rfl (Av rfl rfl (by omega) (AE rfl (AC rfl (AJ rfl (AJ rfl (AE rfl (AO rfl (AC rfl (AO rfl (AC rfl ?_))))))))))))))))
    repeat refine nx rfl ?_
    refine AA (AB (AC rfl ?_))
    repeat refine nx rfl ?_
    exact AP rfl ⟨by rw [hb]; rfl, k1⟩
   ·cases hrs : (A0 c || decide (c.toNat = 95)) with
    | true =>
     refine AA (AC rfl (BL rfl (AC rfl (AE rfl (AH rfl (AE rfl (AL rfl rfl (by omega) (AE rfl (AC rfl (AE rfl (AC rfl (AE rfl (BL rfl (AE rfl (AQ rfl (AC rfl (AO rfl (AC rfl ?_))))))))))))))))))
     repeat first | refine nx rfl ?_ | refine nf rfl ?_
     (refine AA (AH rfl (BR rfl rfl (by first | exact Al (by omega) (by omega) | exact At (by omega) (by omega) | exact Am (by omega) (by omega)) ?_)) <;> refine AB (AH rfl ?_))
     repeat refine nx rfl ?_
     refine ⟨k + 1, ⟨rfl, ⟨rfl, ?_, trivial⟩, ⟨by omega, step (by rw [hoke, hsm, hrs, decide_eq_true (show 0 < k by omega)]; rfl), rfl⟩⟩, by omega⟩
     show Value.int .i64 ((k : Int) + 1) = _
     rw [Int.natCast_add]; rfl
    | false =>
     have hb := hbad (by rw [hoke, hsm, hrs]; simp)
     refine AA (AC rfl (BL rfl (AC rfl (AE rfl (AH rfl (AE rfl (AL rfl rfl (by omega) (AE rfl (AC rfl (AE rfl (AC rfl (AE rfl (BL rfl (AE rfl (AQ rfl (AC rfl (AO rfl (AC rfl ?_))))))))))))))))))
     repeat refine nx rfl ?_
     refine AA (AB (AC rfl ?_))
     repeat refine nx rfl ?_
     exact AP rfl ⟨by rw [hb]; rfl, k1⟩
 ·obtain rfl : k = s.length := by omega
  have hsh : shapeB s = true := (shapeB_iff s (by omega)).2 fun i c hc => hok i c (List.getElem?_eq_some_iff.1 hc).1 hc
  refine AA (AH rfl (AY rfl (Bb rfl (BN rfl rfl (by omega) ?_))))
  repeat first | refine nx rfl ?_ | refine nf rfl ?_
  refine AA (AB (AC rfl ?_))
  repeat refine nx rfl ?_
  exact AP rfl ⟨by rw [Cs, hsh, decide_eq_false hkey, decide_eq_true (show 1 ≤ s.length by omega), decide_eq_true (show s.length ≤ 12 by omega)]; rfl, k1⟩
end Go.Proofs.YtfcgdbmoncnibaaGreatDoor
