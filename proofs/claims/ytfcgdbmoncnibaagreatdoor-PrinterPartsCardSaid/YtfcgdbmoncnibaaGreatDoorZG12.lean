/- The printer: what is written, or nothing. The printer's laws: the fixed examples answer as they should. The printer's laws: what printing answers, in short. The printer's plain law: the tokens of a formula are parsed to it. The printer's plain law: a formula's tokens are parsed to it, whatever it is. The printer's plain law: what is parsed can be printed, and has been read from enough parentheses. The printer's plain law: specifications and edits. The printer's plain law: what the tokens of specifications and edits are parsed to. The printer's plain law: what is parsed is no greater than its tokens. Conditions: none. -/
import Derived.Test.YtfcgdbmoncnibaaGreatDoorZG11

namespace Go.Proofs.YtfcgdbmoncnibaaGreatDoor
open Go.RowKit
set_option linter.unusedVariables false
section
attribute [local semireducible] WC AW B6 BZ B8 Cw DY By
variable {P : Program} {all : Array Oper} {Z : Fr → DS → List PanicEntry → World → Prop} {K : Fr → DS → World → Prop} {rest : List Oper} {f : Fr} {ds : DS} {w : World} {d : Nat} {ty : TypeId} {pos : String} {af : Array Edge}
theorem W_someneq {xt yt tx : TypeId} {vx : Value} {x : Operand} [hT : IfT P xt] (hx : ev f x = .iface tx vx) (h : AW P all Z K rest (upd f d (.bool true)) ds w) :
  AW P all Z K (⟨some d, .binOp .neq xt x (.const .nilIface) yt, ty, pos, af, none⟩ :: rest) f ds w := by
 obtain ⟨ms, h1⟩ := hT.out
 refine A5 rfl ?_ h
 have hq : (Op.equalIn Op.maxDepth xt (.iface tx vx) .nilIface).run P w = .ok false w := by
  rw [show Op.maxDepth = 9999 + 1 from rfl]
  generalize 9999 = n
  unfold Op.equalIn
  simp [run_underlying h1]
 have hy : ev f (.const .nilIface) = .nilIface := rfl
 simp [execOp, hx, hy, eqGuard, binOp, Op.equal, hq]
end
instance : IfT Tryz.prog 20 := ⟨_, Tryz.underlying20⟩
theorem trecRet (w : World) (c : Nat) : CallsDIn Fence.wide 0 Tryz.prog 72 ([] ++ [pt c] : List Value).toArray .returning w (fun e u' w' => match e with | .returned _ => u' = .returning ∧ w' = w | _ => False) := by
 refine C0 (u1 := .returning) (v0 := .nilIface) (G := fun _ w' => w' = w) (args := [pt c]) Tryz.func72 rfl Tryz.ntmps72 (by simp) (by decide) (by kernel_rfl) (by kernel_rfl) (.inl ⟨rfl, rfl, rfl⟩) ?_
 refine W_nilneq rfl ?_
 repeat first | refine nx rfl ?_ | refine nf rfl ?_
 exact A1 rfl rfl
theorem trecPan (w : World) (c : Nat) (x : Value) (d : Blk w c 9 [x]) : CallsDIn Fence.wide 0 Tryz.prog 72 ([] ++ [pt c] : List Value).toArray (.panicking [{ v := .iface 186 (.agg #[]), recovered := false }]) w
   (fun en u' w' => match en with | .returned _ => u' = .panicking [{ v := .iface 186 (.agg #[]), recovered := true }] ∧ (Keep [c] w w' ∧ Blk w' c 9 [AL []]) | _ => False) := by
 refine C0 (u1 := .panicking [{ v := .iface 186 (.agg #[]), recovered := true }]) (v0 := .iface 186 (.agg #[])) (G := fun _ w' => Keep [c] w w' ∧ Blk w' c 9 [AL []]) (args := [pt c]) Tryz.func72 rfl Tryz.ntmps72 (by simp) (by decide) (by kernel_rfl) (by kernel_rfl) (.inr ⟨_, rfl, rfl, rfl⟩) ?_
 refine W_someneq rfl ?_
 repeat refine nx rfl ?_
 refine AA ?_
 refine Ao rfl rfl rfl d (by simp) (fun w2 p2 => ?_)
 repeat refine nx rfl ?_
 exact A1 rfl ⟨p2.keep, p2.blk⟩
theorem text_ok (w : World) (g c : Nat) [hg : AT Tryz.prog g] (s : List UInt8) (ok : Bool) (hs : ok = true → s.length ≤ 1000000000) (hG : 10 ≤ w.heap.size)
  (hc : ∀ w1 p, Ext w w1 → w.heap.size < p → WrB w1 p (.slice none 0 0) [] → FnP Tryz.prog g [pt p, pt c] w1 (fun _ w' => WAns p (.slice none 0 0) [] s ok w1 w') (WPan p (.slice none 0 0) ok w1)) :
  Fn Tryz.prog 42 [.func (.func g) #[] #[pt c]] w (fun v w' => v = AL (if ok then s else []) ∧ Ext w w') := by
 refine fn_of_wcD Tryz.func42 rfl Tryz.ntmps42 (Nat.le_of_ble_eq_true rfl) (by kernel_rfl) ?_
 repeat refine nx rfl ?_
 refine AA ?_
 refine Ay (fun w1 n1 => ?_)
 have z1 := n1.size
 have b1 : Blk w1 w.heap.size 9 [AL []] := n1.blk
 repeat refine nx rfl ?_
 refine AA (BH rfl rfl ?_)
 refine W_defer (v1 := []) (v2 := [pt w.heap.size]) (vs := []) rfl rfl ?_
 repeat refine nx rfl ?_
 refine AA (Ad (by rfl) (by rfl) ?_)
 refine Bq (L := [.pointer none, .slice none 0 0]) rfl (fun w2 n2 => ?_)
 have z2 := n2.size
 have b2 : Blk w2 w1.heap.size 120 [.pointer none, .slice none 0 0] := n2.blk
 refine AC (AQ rfl ?_)
 repeat refine nx rfl ?_
 have k2 : Ext w w2 := n1.keep.trans n2.keep
 have hw2 : WrB w2 w1.heap.size (.slice none 0 0) [] := ⟨⟨none, .inl rfl, b2⟩, ⟨by simp [Cv], .inl ⟨rfl, rfl⟩⟩, .inl rfl⟩
 have hold : ∀ {X : List Nat} {a b : World}, Keep X a b → True := fun _ => trivial
 clear hold
 have b12 := b1.keep n2.keep (by simp)
 refine AA (Ct rfl (AQ rfl ?_))
 refine CQ (v1 := []) (v2 := [pt c]) (vs := [pt w1.heap.size]) rfl (hc w2 w1.heap.size k2 (by omega) hw2) rfl ?_ ?_
 rotate_left
 ·rintro ch w3 ⟨rfl, hb, v3, k3⟩
  repeat refine nx rfl ?_
  have b3 := b12.keep k3.keep (by simp [Value.ownBlock]; omega)
  refine finD_pan_def (a := []) (c := [pt w.heap.size]) (trecPan w3 _ _ b3) fun w4 h4 => ?_
  obtain ⟨k4, b4⟩ := h4
  refine Be rfl (b4.cell rfl) ?_
  refine ⟨by rw [hb]; rfl, (k2.keep k3.keep ?_).keep k4 (by simp)⟩
  intro x hx
  simp [Value.ownBlock] at hx; omega
 rintro _ w3 ⟨hb, v3, hw3, k3⟩
 repeat refine nx rfl ?_
 have b3 := b12.keep k3.keep (by simp [Value.ownBlock]; omega)
 refine AA (AQ rfl (AH rfl (AD rfl ?_)))
 refine AS (bstring_ok w3 w1.heap.size v3 _ hw3 (by simp; have := hs hb; omega)) rfl ?_
 rintro _ w4 ⟨rfl, k4⟩
 have hv3 : ∀ y, v3.ownBlock = some y → w1.heap.size < y := fun y hy => (hw3.ge hy).1
 have b4 := b3.keep k4 (fun hx => by have := hv3 _ (Option.mem_toList.1 hx); omega)
 refine Ao rfl rfl rfl b4 (by simp) (fun w5 p5 => ?_)
 repeat refine nx rfl ?_
 refine finD_ret_def (a := []) (c := [pt w.heap.size]) (trecRet w5 _) fun w6 k6 => ?_
 subst k6
 refine Be rfl (p5.blk.cell rfl) ?_
 refine ⟨by rw [hb]; rfl, ((k2.keep k3.keep ?_).keep k4 ?_).keep p5.keep (by simp)⟩
 ·intro x hx
  simp [Value.ownBlock] at hx; omega
 ·intro x hx
  have := hv3 x (Option.mem_toList.1 hx); omega
theorem wf_ans {w : World} {p b o : Nat} {v : Value} {t : List UInt8} {f : Fml} (hw : WrB w p v t) (hf : PF (fun b => b < p) w b o f) (hG : GP w) (hp : 10 ≤ p) (hz : szF f ≤ 1000000) (hl : t.length ≤ 1000000000) :
  FnP Tryz.prog 44 [pt p, .pointer (some ⟨b, o, none⟩)] w (fun _ w' => WAns p v t (prF 0 f) (okF f) w w') (WPan p v (okF f) w) := wformula_ok w p b o v t f hw hf hG hp hz hl
theorem print_F (w : World) (x : Fml) (c : List Value) (hx : (fmlR).fits A0 w c x) (hG : GP w) (hz : szF x ≤ 1000000) (hN : 10 ≤ w.heap.size) (hl : (okF x) = true → (prF 0 x).length ≤ 1000000000) :
  Fn Tryz.prog 14 [.agg c.toArray] w (fun v w' => v = AL (if okF x then prF 0 x else []) ∧ Ext w w') := by
 refine Ab Tryz.func14 rfl Tryz.ntmps14 (Nat.le_of_ble_eq_true rfl) (by kernel_rfl) ?_
 repeat refine nx rfl ?_
 (refine AA ?_; refine Bq (L := c) rfl (fun w1 n1 => ?_))
 refine AC (AU rfl ?_)
 repeat refine nx rfl ?_
 have z1 := n1.size
 have k1 := n1.keep
 have hx1 := (fmlR).ext ((fmlR).lt hx) k1
 have b1 := n1.blk
 refine AA (BH rfl rfl ?_)
 refine AS (text_ok w1 43 w.heap.size (prF 0 x) (okF x) hl (by omega) ?_) rfl ?_
 ·intro w2 p k2 hp hw2
  have hG2 := (hG.ext k1).ext k2
  have hgp : 10 ≤ p := by omega
  refine Ar Tryz.func43 rfl Tryz.ntmps43 (Nat.le_of_ble_eq_true rfl) (by kernel_rfl) ?_
  repeat refine nx rfl ?_
  refine AA (AQ rfl ?_)
  refine Aa (wf_ans hw2 ⟨by omega, c, hx1.1, (n1.blk.keep k2 (by simp)).cells, (hx1.2.ext k2).mono fun b hb => Nat.lt_trans hb.2 (by omega)⟩ hG2 hgp hz (by simp)) rfl ?_ ?_
  rotate_left
  ·rintro ch w3 h3
   repeat refine nx rfl ?_
   exact AY h3
  rintro _ w3 h3
  repeat refine nx rfl ?_
  exact A1 rfl h3
 rintro _ w2 ⟨rfl, k2⟩
 refine AC (AU rfl ?_)
 repeat refine nx rfl ?_
 exact AO rfl ⟨rfl, k1.trans k2⟩
theorem print_S (w : World) (x : Spc) (c : List Value) (hx : (spcR).fits A0 w c x) (hG : GP w) (hz : szS x ≤ 1000000) (hN : 10 ≤ w.heap.size) (hl : (CL x) = true → (spcT x).length ≤ 1000000000) :
  Fn Tryz.prog 16 [.agg c.toArray] w (fun v w' => v = AL (if CL x then spcT x else []) ∧ Ext w w') := by
 refine Ab Tryz.func16 rfl Tryz.ntmps16 (Nat.le_of_ble_eq_true rfl) (by kernel_rfl) ?_
 repeat refine nx rfl ?_
 (refine AA ?_; refine Bq (L := c) rfl (fun w1 n1 => ?_))
 refine AC (AU rfl ?_)
 repeat refine nx rfl ?_
 have z1 := n1.size
 have k1 := n1.keep
 have hx1 := (spcR).ext ((spcR).lt hx) k1
 have b1 := n1.blk
 refine AA (BH rfl rfl ?_)
 refine AS (text_ok w1 46 w.heap.size (spcT x) (CL x) hl (by omega) ?_) rfl ?_
 ·intro w2 p k2 hp hw2
  have hG2 := (hG.ext k1).ext k2
  have hgp : 10 ≤ p := by omega
  refine Ar Tryz.func46 rfl Tryz.ntmps46 (Nat.le_of_ble_eq_true rfl) (by kernel_rfl) ?_
  repeat refine nx rfl ?_
  refine AA (AQ rfl ?_)
  refine Aa (wspec_ok w2 p _ 0 _ [] x hw2 ⟨by omega, c, (n1.blk.keep k2 (by simp)).cells, spcR.mono (spcR.ext hx1 k2) fun b hb => Nat.lt_trans hb.2 (by omega)⟩ hG2 hgp hz (by simp)) rfl ?_ ?_
  rotate_left
  ·rintro ch w3 h3
   repeat refine nx rfl ?_
   exact AY h3
  rintro _ w3 h3
  repeat refine nx rfl ?_
  exact A1 rfl h3
 rintro _ w2 ⟨rfl, k2⟩
 refine AC (AU rfl ?_)
 repeat refine nx rfl ?_
 exact AO rfl ⟨rfl, k1.trans k2⟩
theorem print_D (w : World) (x : Edt) (c : List Value) (hx : (edtR).fits A0 w c x) (hG : GP w) (hz : szF x.req.formula ≤ 1000000) (hN : 10 ≤ w.heap.size) (hl : (okE x) = true → (edtT x).length ≤ 1000000000) :
  Fn Tryz.prog 18 [.agg c.toArray] w (fun v w' => v = AL (if okE x then edtT x else []) ∧ Ext w w') := by
 refine Ab Tryz.func18 rfl Tryz.ntmps18 (Nat.le_of_ble_eq_true rfl) (by kernel_rfl) ?_
 repeat refine nx rfl ?_
 (refine AA ?_; refine Bq (L := c) rfl (fun w1 n1 => ?_))
 refine AC (AU rfl ?_)
 repeat refine nx rfl ?_
 have z1 := n1.size
 have k1 := n1.keep
 have hx1 := (edtR).ext ((edtR).lt hx) k1
 have b1 := n1.blk
 refine AA (BH rfl rfl ?_)
 refine AS (text_ok w1 50 w.heap.size (edtT x) (okE x) hl (by omega) ?_) rfl ?_
 ·intro w2 p k2 hp hw2
  have hG2 := (hG.ext k1).ext k2
  have hgp : 10 ≤ p := by omega
  refine Ar Tryz.func50 rfl Tryz.ntmps50 (Nat.le_of_ble_eq_true rfl) (by kernel_rfl) ?_
  repeat refine nx rfl ?_
  refine AA (AQ rfl ?_)
  refine Aa (wedit_ok w2 p _ 0 _ [] x hw2 ⟨by omega, c, (n1.blk.keep k2 (by simp)).cells, edtR.mono (edtR.ext hx1 k2) fun b hb => Nat.lt_trans hb.2 (by omega)⟩ hG2 hgp hz (by simp)) rfl ?_ ?_
  rotate_left
  ·rintro ch w3 h3
   repeat refine nx rfl ?_
   exact AY h3
  rintro _ w3 h3
  repeat refine nx rfl ?_
  exact A1 rfl h3
 rintro _ w2 ⟨rfl, k2⟩
 refine AC (AU rfl ?_)
 repeat refine nx rfl ?_
 exact AO rfl ⟨rfl, k1.trans k2⟩
end Go.Proofs.YtfcgdbmoncnibaaGreatDoor
namespace Go.Proofs.YtfcgdbmoncnibaaGreatDoor
open Go.RowKit
set_option linter.unusedVariables false
theorem GP.size {w : World} (h : GP w) : 10 ≤ w.heap.size := h.gk.gv.size
def hdT : List UInt8 := [105, 110, 112, 117, 116, 32, 114, 59, 10, 111, 117, 116, 112, 117, 116, 32, 103, 58, 32, 51, 59, 10, 112, 97, 114, 116, 32, 112, 32, 123, 10, 32, 32, 103, 117, 97, 114, 97, 110, 116, 101, 101, 32, 111, 110, 101, 58, 32, 71, 32, 40, 114, 32, 45, 62, 32, 70, 91, 51, 93, 32, 103, 41, 59, 10, 32, 32, 97, 115, 115, 117, 109, 101, 32, 116, 119, 111, 58, 32, 116, 114, 117, 101, 59, 10, 125, 10, 112, 97, 114, 116, 32, 113, 32, 123, 10, 32, 32, 103, 117, 97, 114, 97, 110, 116, 101, 101, 32, 111, 110, 101, 58, 32, 103, 61, 50, 59, 10, 125, 10]
theorem hd_S : PRes .spec hdT (.ok exS) := PRes.of (n := 200) (by kernel_rfl)
theorem hd_pS : (if CL exS then spcT exS else []) = hdT := by kernel_rfl
theorem made15 : (madeCells (Value.agg #[.int .i64 0, AL [], .int .i64 0, .int .i64 0, .slice none 0 0]).cells (3 * 5)).toList = Cn ++ (Cn ++ Cn) := by kernel_rfl
def hdA : Fml := isF [97] 1
def hdB : Fml := isF [98] 1
def hd1 : Fml := ⟨9, [], 0, 0, [⟨9, [], 0, 0, [hdA, isF [98] 0]⟩, ⟨4, [], 0, 0, [isF [99] 2]⟩]⟩
def hd2 : Fml := ⟨5, [], 0, 0, [hdA, ⟨5, [], 0, 0, [hdB, isF [99] 1]⟩, ⟨6, [], 0, 0, [hdA, hdB]⟩]⟩
def hd3 : Fml := ⟨16, [], 1, 0, [⟨15, [], 1, 0, [hdA]⟩, ⟨17, [], 0, 0, [hdA, hdB]⟩]⟩
def hd4 : Fml := ⟨7, [], 0, 0, [⟨7, [], 0, 0, [hdA, hdB]⟩, ⟨7, [], 0, 0, [hdA, hdB]⟩]⟩
theorem hd_p1 : (if okF hd1 then prF 0 hd1 else []) = [40, 97, 32, 85, 32, 98, 61, 48, 41, 32, 85, 32, 33, 99, 61, 50] := by kernel_rfl
theorem hd_p2 : (if okF hd2 then prF 0 hd2 else []) = [97, 32, 38, 32, 40, 98, 32, 38, 32, 99, 41, 32, 38, 32, 40, 97, 32, 124, 32, 98, 41] := by kernel_rfl
theorem hd_p3 : (if okF hd3 then prF 0 hd3 else []) = [90, 32, 97, 32, 83, 91, 49, 93, 32, 97, 32, 84, 91, 48, 93, 32, 98] := by kernel_rfl
theorem hd_p4 : (if okF hd4 then prF 0 hd4 else []) = [40, 97, 32, 45, 62, 32, 98, 41, 32, 45, 62, 32, 97, 32, 45, 62, 32, 98] := by kernel_rfl
theorem hd_p5 : (if okF (isF [71] 1) then prF 0 (isF [71] 1) else []) = [] := by kernel_rfl
theorem hd_p6 : (if okE ⟨2, ⟨[], [103], 0, zeroF⟩⟩ then edtT ⟨2, ⟨[], [103], 0, zeroF⟩⟩ else []) = [100, 114, 111, 112, 32, 103] := by kernel_rfl
theorem hd_p7 : (if okE ⟨1, ⟨[113], [111, 110, 101], 2, isF [103] 2⟩⟩ then edtT ⟨1, ⟨[113], [111, 110, 101], 2, isF [103] 2⟩⟩ else []) = [97, 100, 100, 32, 113, 32, 103, 117, 97, 114, 97, 110, 116, 101, 101, 32, 111, 110, 101, 58, 32, 103, 61, 50] := by kernel_rfl
theorem hd_p8 : (if okE ⟨0, ⟨[], [], 0, zeroF⟩⟩ then edtT ⟨0, ⟨[], [], 0, zeroF⟩⟩ else []) = [] := by kernel_rfl
theorem hd_lex : DK [71, 32, 97] = .ok [⟨1, [71], 0⟩, ⟨1, [97], 2⟩] := by kernel_rfl
set_option maxHeartbeats 3200000 in
set_option maxRecDepth 20000 in
theorem head_ok (w : World) (hG : GP w) (hF : GF w) : Fn Tryz.prog 10 [] w fun v w' => v = .bool true ∧ Ext w w' := by
 refine Ab Tryz.func10 rfl Tryz.ntmps10 (Nat.le_of_ble_eq_true rfl) (by kernel_rfl) ?_
 repeat refine nx rfl ?_
 refine AA (AC (AB rfl ?_))
 repeat refine nx rfl ?_
 refine AA ?_
 refine AS (example_ok w) rfl ?_
 rintro _ w1 ⟨cS, rfl, fS, k1⟩
 refine BE (cs := cS) rfl (spcR.len fS) (by rfl) (spcR.one fS) (fun w2 n2 => ?_)
 have bS := n2.blk
 have k2 : Ext w w2 := k1.trans n2.keep
 replace fS := spcR.ext fS n2.keep
 repeat refine nx rfl ?_
 refine AA (AC (AU rfl ?_))
 repeat refine nx rfl ?_
 refine AA (AU rfl ?_)
 refine AS (parseU_S w2 hdT (hG.ext k2).gk) rfl ?_
 rintro _ w3 ⟨o, cT, hp, rfl, k3, fT, _⟩
 obtain rfl := hp.det hd_S
 rw [show Out.errno (Except.ok exS : Out Spc) = 0 from rfl, show Out.loc (Except.ok exS : Out Spc) = -1 from rfl]
 replace fT := spcR.mono (ok' := A0) fT fun _ _ => trivial
 refine Bp rfl (Ag rfl rfl (Ag rfl rfl (Ag rfl rfl ?_)))
 refine BE (cs := cT) rfl (spcR.len fT) (by rfl) (spcR.one fT) (fun w4 n4 => ?_)
 have bT := n4.blk
 have k24 := k3.trans n4.keep
 have k4 := k2.trans k24
 replace bS := bS.keep k24 (by simp)
 replace fS := spcR.ext fS k24
 replace fT := spcR.ext fT n4.keep
 refine AC (AF rfl (AC (AF rfl ?_)))
 repeat refine nx rfl ?_
 replace fT : spcR.fits A0 w4 cT exS := fT
 clear hp
 refine AA ?_
 refine AS (ris_ok w4 [97] 1) rfl ?_
 rintro va w5 ⟨k5, fa⟩
 obtain ⟨a0, a1, a2, a3, a4, rfl, oa⟩ := FV.five fa
 refine BE (cs := [a0, a1, a2, a3, a4]) rfl rfl (by rfl) oa (fun w6 n6 => ?_)
 have ba := n6.blk
 have k46 := k5.trans n6.keep
 replace fa : FV w6 _ hdA := fa.ext n6.keep
 repeat refine nx rfl ?_
 refine AA ?_
 refine AS (ris_ok w6 [98] 1) rfl ?_
 rintro vb w7 ⟨k7, fb⟩
 obtain ⟨b0, b1, b2, b3, b4, rfl, ob⟩ := FV.five fb
 refine BE (cs := [b0, b1, b2, b3, b4]) rfl rfl (by rfl) ob (fun w8 n8 => ?_)
 have bb := n8.blk
 have k68 := k7.trans n8.keep
 have k48 := k46.trans k68
 replace fb : FV w8 _ hdB := fb.ext n8.keep
 replace fa := fa.ext k68
 replace ba := ba.keep k68 (by simp)
 replace bS := bS.keep k48 (by simp)
 replace bT := bT.keep k48 (by simp)
 replace fS := spcR.ext fS k48
 replace fT := spcR.ext fT k48
 have k8 := k4.trans k48
 repeat refine nx rfl ?_
 refine AA (AX rfl bS (spcR.len fS) ?_)
 refine AS (print_S w8 exS cS fS (hG.ext k8) (of_decide_eq_true (by kernel_rfl)) (hG.ext k8).size (fun _ => of_decide_eq_true (by kernel_rfl))) rfl ?_
 rintro _ w9 ⟨rfl, k9⟩
 rw [hd_pS]
 refine AU rfl ?_
 refine CM rfl rfl (fun _ => ?_) (fun h => absurd rfl h)
 refine AB rfl (AE rfl (AF rfl (AE rfl (Av rfl rfl (by omega) (AK rfl (AB rfl (AB rfl (AE rfl (AF rfl (AE rfl (Av rfl rfl (by omega) (AK rfl (AB rfl (AB rfl ?_))))))))))))))
 refine AE rfl (AX rfl (bT.keep k9 (by simp)) (spcR.len fT) ?_)
 refine AE rfl (AX rfl (bS.keep k9 (by simp)) (spcR.len fS) ?_)
 refine AE rfl (AS (sameSpec_ok w9 _ _ _ _ (spcR.ext fT k9) (spcR.ext fS k9)) rfl ?_)
 rintro _ wA ⟨b, rfl, hb, kA⟩
 obtain rfl : b = true := hb.2 rfl
 refine AK rfl (AB rfl (AC (AB rfl ?_)))
 repeat refine nx rfl ?_
 have kA8 := k9.trans kA
 have kwA := k8.trans kA8
 replace fa := fa.ext kA8
 replace fb := fb.ext kA8
 replace ba := ba.keep kA8 (by simp)
 replace bb := bb.keep kA8 (by simp)
 replace bS := bS.keep kA8 (by simp)
 replace fS := spcR.ext fS kA8
 clear bT fT hb k9 kA n2 n4 n6 n8 k1 k2 k3 k24 k4 k5 k46 k7 k68 k48 k8
 refine Bb (.read 0 (.alt 1 (.alt 2 (.alt 3 (.alt 4 (.alt 5 (.alt 6 (.read 7 (.read 8 (.read 9 (.read 10 (.read 13 (.read 14 (.alt 11 (.alt 12 (.alt 15 (.alt 16 (.alt 17 (.alt 18 (.read 19 (.read 20 (.read 21 .done))) .stop) .stop) .stop) .stop) .stop) .stop))))))) .stop) .stop) .stop) .stop) .stop) .stop)) BP (by kernel_rfl) (fun wd kd ed => ⟨Ext wd, ?_, ?_⟩)
 ·exact Ext.refl _
 have ca : ∀ W, Ext wd W → Cells W w5.heap.size 0 [a0, a1, a2, a3, a4] := fun W e => ((ba.keep kd (by simp)).keep e (by simp)).cells
 have cb : ∀ W, Ext wd W → Cells W w7.heap.size 0 [b0, b1, b2, b3, b4] := fun W e => ((bb.keep kd (by simp)).keep e (by simp)).cells
 have fad := fa.ext kd
 have fbd := fb.ext kd
 have kwd := kwA.trans kd
 ((apply D_R rfl rfl; (intro W hW; refine Ac rfl (by rfl) (ca W hW) ?_; exact AJ ⟨rfl, rfl, rfl⟩)))
 refine D_E rfl ?_
 refine AS (ris_ok wd [98] 0) rfl ?_
 rintro vB x1 ⟨e1, fB⟩
 refine AJ ⟨Ext wd, fun _ e => e, e1, ?_⟩
 refine D_E rfl ?_
 refine AS (C9 x1 9 _ _ hdA _ (fad.ext e1) fB) rfl ?_
 rintro vU x2 ⟨e2, fU⟩
 have h2 := e1.trans e2
 refine AJ ⟨Ext wd, fun _ e => e, h2, ?_⟩
 refine D_E rfl ?_
 refine AS (ris_ok x2 [99] 2) rfl ?_
 rintro vC x3 ⟨e3, fC⟩
 have h3 := h2.trans e3
 refine AJ ⟨Ext wd, fun _ e => e, h3, ?_⟩
 refine D_E rfl ?_
 refine AS (rone_ok x3 4 _ _ fC) rfl ?_
 rintro vN x4 ⟨e4, fN⟩
 have h4 := h3.trans e4
 refine AJ ⟨Ext wd, fun _ e => e, h4, ?_⟩
 refine D_E rfl ?_
 refine AS (C9 x4 9 _ _ _ _ ((fU.ext e3).ext e4) fN) rfl ?_
 rintro vV x5 ⟨e5, fV⟩
 obtain ⟨p0, p1, p2, p3, p4, rfl, op⟩ := FV.five fV
 have h5 := h4.trans e5
 refine AJ ⟨Ext wd, fun _ e => e, h5, ?_⟩
 refine D_E rfl ?_
 refine AS (print_F x5 hd1 _ ⟨rfl, fV⟩ (hG.ext (kwd.trans h5)) (of_decide_eq_true (by kernel_rfl)) (hG.ext (kwd.trans h5)).size (fun _ => of_decide_eq_true (by kernel_rfl))) rfl ?_
 rintro _ x6 ⟨rfl, e6⟩
 rw [hd_p1]
 have h6 := h5.trans e6
 refine AJ ⟨Ext wd, fun _ e => e, h6, ?_⟩
 ((refine D_seql rfl rfl rfl rfl (fun hc => ?_) (fun hc => ?_)) <;> refine D_R rfl rfl (fun W hW => AB rfl Z3) ?_ <;> (first | refine Af rfl rfl rfl rfl ?_ | (apply D_R rfl rfl; (intro W hW; (refine AE rfl ?_; refine Ac rfl (by rfl) (ca W hW) ?_); exact AJ ⟨rfl, rfl, rfl⟩))) <;> (first | refine Af rfl rfl rfl rfl ?_ | (apply D_R rfl rfl; (intro W hW; (refine AE rfl ?_; refine Ac rfl (by rfl) (cb W hW) ?_); exact AJ ⟨rfl, rfl, rfl⟩))) <;> (first | refine Af rfl rfl rfl rfl ?_ | (apply D_R rfl rfl; (intro W hW; (refine AE rfl ?_; refine Ac rfl (by rfl) (ca W hW) ?_); exact AJ ⟨rfl, rfl, rfl⟩))) <;> (first | refine Af rfl rfl rfl rfl ?_ | (apply D_R rfl rfl; (intro W hW; (refine AE rfl ?_; refine Ac rfl (by rfl) (cb W hW) ?_); exact AJ ⟨rfl, rfl, rfl⟩))))
 rotate_left
 ·exact absurd rfl (by assumption)
 refine D_E rfl ?_
 refine AE rfl (AS (ris_ok x6 [99] 1) rfl ?_)
 rintro vC2 x7 ⟨e7, fC2⟩
 have h7 := h6.trans e7
 refine AJ ⟨Ext wd, fun _ e => e, h7, ?_⟩
 refine D_E rfl ?_
 refine AE rfl (AS (C9 x7 5 _ _ hdB _ (fbd.ext h7) fC2) rfl ?_)
 rintro vD x8 ⟨e8, fD⟩
 obtain ⟨r0, r1, r2, r3, r4, rfl, or⟩ := FV.five fD
 have h8 := h7.trans e8
 refine AJ ⟨Ext wd, fun _ e => e, h8, ?_⟩
 refine D_E rfl ?_
 refine AE rfl (AS (C9 x8 6 _ _ hdA hdB (fad.ext h8) (fbd.ext h8)) rfl ?_)
 rintro vE x9 ⟨e9, fE⟩
 obtain ⟨s0, s1, s2, s3, s4, rfl, os⟩ := FV.five fE
 have h9 := h8.trans e9
 refine AJ ⟨Ext wd, fun _ e => e, h9, ?_⟩
 refine D_E rfl ?_
 (refine AE rfl ?_; refine AV (out := [a0, a1, a2, a3, a4, r0, r1, r2, r3, r4, s0, s1, s2, s3, s4]) rfl (by omega) (by rw [made15]; rfl) (fun xa ma => ?_))
 obtain ⟨Sa, Fa⟩ := FV.fresh (L := [[a0, a1, a2, a3, a4], [r0, r1, r2, r3, r4], [s0, s1, s2, s3, s4]]) ma (FsAt.cons (fad.ext h9) rfl (FsAt.two (fD.ext e9) rfl fE rfl)) (by simp)
 have ha := h9.trans ma.keep
 refine AJ ⟨Ext wd, fun _ e => e, ha, ?_⟩
 refine D_E rfl ?_
 refine AE rfl (AS (rop_ok xa 5 A0 _ _ _ [hdA, ⟨5, [], 0, 0, [hdB, isF [99] 1]⟩, ⟨6, [], 0, 0, [hdA, hdB]⟩] Sa Fa) rfl ?_)
 rintro vG xb ⟨eb, fG⟩
 obtain ⟨u0, u1, u2, u3, u4, rfl, ou⟩ := FV.five fG
 have hb := ha.trans eb
 refine AJ ⟨Ext wd, fun _ e => e, hb, ?_⟩
 refine D_E rfl ?_
 refine AE rfl (AS (print_F xb hd2 _ ⟨rfl, fG⟩ (hG.ext (kwd.trans hb)) (of_decide_eq_true (by kernel_rfl)) (hG.ext (kwd.trans hb)).size (fun _ => of_decide_eq_true (by kernel_rfl))) rfl ?_)
 rintro _ xc ⟨rfl, ec⟩
 rw [hd_p2]
 have hC := hb.trans ec
 refine AJ ⟨Ext wd, fun _ e => e, hC, ?_⟩
 ((refine D_seql rfl rfl rfl rfl (fun hc => ?_) (fun hc => ?_)) <;> refine D_R rfl rfl (fun W hW => AK rfl (AB rfl Z3)) (D_R rfl rfl (fun W hW => AC (AB rfl Z3)) (A8 ?_)))
 rotate_left
 ·exact absurd rfl (by assumption)
 repeat refine nx rfl ?_
 have kAc := kd.trans hC
 have kwc := kwA.trans kAc
 replace fa := fa.ext kAc
 replace fb := fb.ext kAc
 replace ba := ba.keep kAc (by simp)
 replace bb := bb.keep kAc (by simp)
 replace bS := bS.keep kAc (by simp)
 replace fS := spcR.ext fS kAc
 clear ca cb fad fbd kwd h2 h3 h4 h5 h6 h7 h8 h9 ha hb Sa Fa ma fB fU fC fN fV fC2 fD fE fG kd
 refine CE (α := Unit) (fun _ => [(1, pt w1.heap.size), (6, pt w5.heap.size), (8, .bool true), (9, .bool true), (10, .bool true)]) (fun _ W => Ext xc W) ?_ ?_
 ·refine Bb (.read 0 (.read 3 (.read 4 (.alt 1 (.alt 2 (.alt 5 (.alt 6 (.alt 7 (.alt 8 (.alt 9 (.read 10 (.read 11 (.read 12 (.read 13 (.read 15 (.read 16 (.alt 14 (.alt 17 (.alt 18 (.alt 19 (.read 20 (.read 21 (.read 22 .done))) .stop) .stop) .stop) .stop))))))) .stop) .stop) .stop) .stop) .stop) (.alt 5 (.alt 2 (.alt 6 (.alt 7 (.alt 8 (.alt 9 (.read 10 (.read 11 (.read 12 (.read 13 (.read 15 (.read 16 (.alt 14 (.alt 17 (.alt 18 (.alt 19 (.read 20 (.read 21 (.read 22 .done))) .stop) .stop) .stop) .stop))))))) .stop) .stop) .stop) .stop) .stop) .stop)) (.alt 5 (.alt 1 (.alt 2 (.alt 6 (.alt 7 (.alt 8 (.alt 9 (.read 10 (.read 11 (.read 12 (.read 13 (.read 15 (.read 16 (.alt 14 (.alt 17 (.alt 18 (.alt 19 (.read 20 (.read 21 (.read 22 .done))) .stop) .stop) .stop) .stop))))))) .stop) .stop) .stop) .stop) .stop) .stop) .stop))))) BP (by kernel_rfl) (fun wd kd ed => ⟨Ext wd, ?_, ?_⟩)
  ·exact Ext.refl _
  have ca : ∀ W, Ext wd W → Cells W w5.heap.size 0 [a0, a1, a2, a3, a4] := fun W e => ((ba.keep kd (by simp)).keep e (by simp)).cells
  have cb : ∀ W, Ext wd W → Cells W w7.heap.size 0 [b0, b1, b2, b3, b4] := fun W e => ((bb.keep kd (by simp)).keep e (by simp)).cells
  have fad := fa.ext kd
  have fbd := fb.ext kd
  have kwd := kwc.trans kd
  have er : Ext wd wd := Ext.refl _
  ((apply D_R rfl rfl; (intro W hW; refine Ac rfl (by rfl) (ca W hW) ?_; exact Z3)) <;> (apply D_R rfl rfl; (intro W hW; refine Ac rfl (by rfl) (ca W hW) ?_; exact Z3)) <;> (apply D_R rfl rfl; (intro W hW; refine Ac rfl (by rfl) (cb W hW) ?_; exact Z3)))
  refine D_A rfl ?_ ?_
  ·refine AV (out := [a0, a1, a2, a3, a4]) rfl (by omega) (by rw [made5]; rfl) (fun y1 m1 => ?_)
   have e1 := er.trans m1.keep
   obtain ⟨S1, F1⟩ := FV.fresh (L := [[a0, a1, a2, a3, a4]]) m1 (FsAt.one (fad.ext er) rfl) (by simp)
   try replace S5 := S5.ext m1.keep
   try replace F5 := F5.ext m1.keep
   refine AJ ⟨Ext wd, fun _ e => e, e1, ?_⟩
   refine D_A rfl ?_ ?_
   ·refine AS (rlate_ok y1 15 1 A0 _ _ _ [hdA] S1 F1) rfl ?_
    rintro vY y2 ⟨q2, fY⟩
    obtain ⟨r0, r1, r2, r3, r4, rfl, or⟩ := FV.five fY
    have e2 := e1.trans q2
    try replace S5 := S5.ext q2
    try replace F5 := F5.ext q2
    refine AJ ⟨Ext wd, fun _ e => e, e2, ?_⟩
    refine D_E rfl ?_
    refine AV (out := [a0, a1, a2, a3, a4, b0, b1, b2, b3, b4]) rfl (by omega) (by rw [made10]; rfl) (fun y5 m5 => ?_)
    have e5 := e2.trans m5.keep
    obtain ⟨S5, F5⟩ := FV.fresh (L := [[a0, a1, a2, a3, a4], [b0, b1, b2, b3, b4]]) m5 (FsAt.two (fad.ext e2) rfl (fbd.ext e2) rfl) (by simp)
    try replace S1 := S1.ext m5.keep
    try replace F1 := F1.ext m5.keep
    try replace fY := fY.ext m5.keep
    refine AJ ⟨Ext wd, fun _ e => e, e5, ?_⟩
    refine D_E rfl ?_
    refine AS (rlate_ok y5 17 0 A0 _ _ _ [hdA, hdB] S5 F5) rfl ?_
    rintro vT y6 ⟨q6, fT⟩
    obtain ⟨s0, s1, s2, s3, s4, rfl, os⟩ := FV.five fT
    have e6 := e5.trans q6
    replace fY := fY.ext q6
    refine AJ ⟨Ext wd, fun _ e => e, e6, ?_⟩
    refine D_E rfl ?_
    refine AV (out := [r0, r1, r2, r3, r4, s0, s1, s2, s3, s4]) rfl (by omega) (by rw [made10]; rfl) (fun y7 m7 => ?_)
    have e7 := e6.trans m7.keep
    obtain ⟨S7, F7⟩ := FV.fresh (L := [[r0, r1, r2, r3, r4], [s0, s1, s2, s3, s4]]) m7 (FsAt.two fY rfl fT rfl) (by simp)
    refine AJ ⟨Ext wd, fun _ e => e, e7, ?_⟩
    refine D_E rfl ?_
    refine AS (rlate_ok y7 16 1 A0 _ _ _ [⟨15, [], 1, 0, [hdA]⟩, ⟨17, [], 0, 0, [hdA, hdB]⟩] S7 F7) rfl ?_
    rintro vS y8 ⟨q8, fU⟩
    obtain ⟨u0, u1, u2, u3, u4, rfl, ou⟩ := FV.five fU
    have e8 := e7.trans q8
    refine AJ ⟨Ext wd, fun _ e => e, e8, ?_⟩
    refine D_E rfl ?_
    refine AS (print_F y8 hd3 _ ⟨rfl, fU⟩ (hG.ext (kwd.trans e8)) (of_decide_eq_true (by kernel_rfl)) (hG.ext (kwd.trans e8)).size (fun _ => of_decide_eq_true (by kernel_rfl))) rfl ?_
    rintro _ y9 ⟨rfl, q9⟩
    rw [hd_p3]
    have e9 := e8.trans q9
    refine AJ ⟨Ext wd, fun _ e => e, e9, ?_⟩
    ((refine D_seql rfl rfl rfl rfl (fun hc => ?_) (fun hc => ?_)) <;> refine D_R rfl rfl (fun W hW => AB rfl Z3) ?_ <;> (first | refine Af rfl rfl rfl rfl ?_ | (apply D_R rfl rfl; (intro W hW; (refine AE rfl ?_; refine Ac rfl (by rfl) (ca W hW) ?_); exact AJ ⟨rfl, rfl, rfl⟩))) <;> (first | refine Af rfl rfl rfl rfl ?_ | (apply D_R rfl rfl; (intro W hW; (refine AE rfl ?_; refine Ac rfl (by rfl) (cb W hW) ?_); exact AJ ⟨rfl, rfl, rfl⟩))) <;> (first | refine Af rfl rfl rfl rfl ?_ | (apply D_R rfl rfl; (intro W hW; (refine AE rfl ?_; refine Ac rfl (by rfl) (ca W hW) ?_); exact AJ ⟨rfl, rfl, rfl⟩))) <;> (first | refine Af rfl rfl rfl rfl ?_ | (apply D_R rfl rfl; (intro W hW; (refine AE rfl ?_; refine Ac rfl (by rfl) (cb W hW) ?_); exact AJ ⟨rfl, rfl, rfl⟩))))
    rotate_left
    ·exact absurd rfl (by assumption)
    refine D_E rfl ?_
    refine AE rfl (AS (C9 y9 7 _ _ hdA hdB (fad.ext e9) (fbd.ext e9)) rfl ?_)
    rintro vI ya ⟨qa, fI⟩
    have ea := e9.trans qa
    refine AJ ⟨Ext wd, fun _ e => e, ea, ?_⟩
    refine D_E rfl ?_
    refine AE rfl (AS (C9 ya 7 _ _ hdA hdB (fad.ext ea) (fbd.ext ea)) rfl ?_)
    rintro vJ yb ⟨qb, fJ⟩
    have eb := ea.trans qb
    refine AJ ⟨Ext wd, fun _ e => e, eb, ?_⟩
    refine D_E rfl ?_
    refine AE rfl (AS (C9 yb 7 _ _ _ _ (fI.ext qb) fJ) rfl ?_)
    rintro vK yc ⟨qc, fK⟩
    obtain ⟨t0, t1, t2, t3, t4, rfl, ot⟩ := FV.five fK
    have ec := eb.trans qc
    refine AJ ⟨Ext wd, fun _ e => e, ec, ?_⟩
    refine D_E rfl ?_
    refine AE rfl (AS (print_F yc hd4 _ ⟨rfl, fK⟩ (hG.ext (kwd.trans ec)) (of_decide_eq_true (by kernel_rfl)) (hG.ext (kwd.trans ec)).size (fun _ => of_decide_eq_true (by kernel_rfl))) rfl ?_)
    rintro _ yd ⟨rfl, qd⟩
    rw [hd_p4]
    have ed := ec.trans qd
    refine AJ ⟨Ext wd, fun _ e => e, ed, ?_⟩
    ((refine D_seql rfl rfl rfl rfl (fun hc => ?_) (fun hc => ?_)) <;> refine D_R rfl rfl (fun W hW => AK rfl (AB rfl Z3)) (D_R rfl rfl (fun W hW => AC (AB rfl Z3)) (A8 ?_)))
    rotate_left
    ·exact absurd rfl (by assumption)
    repeat refine nx rfl ?_
    exact An () ⟨rfl, rfl, rfl, rfl, rfl, trivial⟩ (kd.trans ed)
   ·refine D_E rfl ?_
    refine AV (out := [a0, a1, a2, a3, a4, b0, b1, b2, b3, b4]) rfl (by omega) (by rw [made10]; rfl) (fun y5 m5 => ?_)
    have e5 := e1.trans m5.keep
    obtain ⟨S5, F5⟩ := FV.fresh (L := [[a0, a1, a2, a3, a4], [b0, b1, b2, b3, b4]]) m5 (FsAt.two (fad.ext e1) rfl (fbd.ext e1) rfl) (by simp)
    try replace S1 := S1.ext m5.keep
    try replace F1 := F1.ext m5.keep
    try replace fY := fY.ext m5.keep
    refine AJ ⟨Ext wd, fun _ e => e, e5, ?_⟩
    refine D_E rfl ?_
    refine AS (rlate_ok y5 15 1 A0 _ _ _ [hdA] S1 F1) rfl ?_
    rintro vY y2 ⟨q2, fY⟩
    obtain ⟨r0, r1, r2, r3, r4, rfl, or⟩ := FV.five fY
    have e2 := e5.trans q2
    try replace S5 := S5.ext q2
    try replace F5 := F5.ext q2
    refine AJ ⟨Ext wd, fun _ e => e, e2, ?_⟩
    refine D_E rfl ?_
    refine AS (rlate_ok y2 17 0 A0 _ _ _ [hdA, hdB] S5 F5) rfl ?_
    rintro vT y6 ⟨q6, fT⟩
    obtain ⟨s0, s1, s2, s3, s4, rfl, os⟩ := FV.five fT
    have e6 := e2.trans q6
    replace fY := fY.ext q6
    refine AJ ⟨Ext wd, fun _ e => e, e6, ?_⟩
    refine D_E rfl ?_
    refine AV (out := [r0, r1, r2, r3, r4, s0, s1, s2, s3, s4]) rfl (by omega) (by rw [made10]; rfl) (fun y7 m7 => ?_)
    have e7 := e6.trans m7.keep
    obtain ⟨S7, F7⟩ := FV.fresh (L := [[r0, r1, r2, r3, r4], [s0, s1, s2, s3, s4]]) m7 (FsAt.two fY rfl fT rfl) (by simp)
    refine AJ ⟨Ext wd, fun _ e => e, e7, ?_⟩
    refine D_E rfl ?_
    refine AS (rlate_ok y7 16 1 A0 _ _ _ [⟨15, [], 1, 0, [hdA]⟩, ⟨17, [], 0, 0, [hdA, hdB]⟩] S7 F7) rfl ?_
    rintro vS y8 ⟨q8, fU⟩
    obtain ⟨u0, u1, u2, u3, u4, rfl, ou⟩ := FV.five fU
    have e8 := e7.trans q8
    refine AJ ⟨Ext wd, fun _ e => e, e8, ?_⟩
    refine D_E rfl ?_
    refine AS (print_F y8 hd3 _ ⟨rfl, fU⟩ (hG.ext (kwd.trans e8)) (of_decide_eq_true (by kernel_rfl)) (hG.ext (kwd.trans e8)).size (fun _ => of_decide_eq_true (by kernel_rfl))) rfl ?_
    rintro _ y9 ⟨rfl, q9⟩
    rw [hd_p3]
    have e9 := e8.trans q9
    refine AJ ⟨Ext wd, fun _ e => e, e9, ?_⟩
    ((refine D_seql rfl rfl rfl rfl (fun hc => ?_) (fun hc => ?_)) <;> refine D_R rfl rfl (fun W hW => AB rfl Z3) ?_ <;> (first | refine Af rfl rfl rfl rfl ?_ | (apply D_R rfl rfl; (intro W hW; (refine AE rfl ?_; refine Ac rfl (by rfl) (ca W hW) ?_); exact AJ ⟨rfl, rfl, rfl⟩))) <;> (first | refine Af rfl rfl rfl rfl ?_ | (apply D_R rfl rfl; (intro W hW; (refine AE rfl ?_; refine Ac rfl (by rfl) (cb W hW) ?_); exact AJ ⟨rfl, rfl, rfl⟩))) <;> (first | refine Af rfl rfl rfl rfl ?_ | (apply D_R rfl rfl; (intro W hW; (refine AE rfl ?_; refine Ac rfl (by rfl) (ca W hW) ?_); exact AJ ⟨rfl, rfl, rfl⟩))) <;> (first | refine Af rfl rfl rfl rfl ?_ | (apply D_R rfl rfl; (intro W hW; (refine AE rfl ?_; refine Ac rfl (by rfl) (cb W hW) ?_); exact AJ ⟨rfl, rfl, rfl⟩))))
    rotate_left
    ·exact absurd rfl (by assumption)
    refine D_E rfl ?_
    refine AE rfl (AS (C9 y9 7 _ _ hdA hdB (fad.ext e9) (fbd.ext e9)) rfl ?_)
    rintro vI ya ⟨qa, fI⟩
    have ea := e9.trans qa
    refine AJ ⟨Ext wd, fun _ e => e, ea, ?_⟩
    refine D_E rfl ?_
    refine AE rfl (AS (C9 ya 7 _ _ hdA hdB (fad.ext ea) (fbd.ext ea)) rfl ?_)
    rintro vJ yb ⟨qb, fJ⟩
    have eb := ea.trans qb
    refine AJ ⟨Ext wd, fun _ e => e, eb, ?_⟩
    refine D_E rfl ?_
    refine AE rfl (AS (C9 yb 7 _ _ _ _ (fI.ext qb) fJ) rfl ?_)
    rintro vK yc ⟨qc, fK⟩
    obtain ⟨t0, t1, t2, t3, t4, rfl, ot⟩ := FV.five fK
    have ec := eb.trans qc
    refine AJ ⟨Ext wd, fun _ e => e, ec, ?_⟩
    refine D_E rfl ?_
    refine AE rfl (AS (print_F yc hd4 _ ⟨rfl, fK⟩ (hG.ext (kwd.trans ec)) (of_decide_eq_true (by kernel_rfl)) (hG.ext (kwd.trans ec)).size (fun _ => of_decide_eq_true (by kernel_rfl))) rfl ?_)
    rintro _ yd ⟨rfl, qd⟩
    rw [hd_p4]
    have ed := ec.trans qd
    refine AJ ⟨Ext wd, fun _ e => e, ed, ?_⟩
    ((refine D_seql rfl rfl rfl rfl (fun hc => ?_) (fun hc => ?_)) <;> refine D_R rfl rfl (fun W hW => AK rfl (AB rfl Z3)) (D_R rfl rfl (fun W hW => AC (AB rfl Z3)) (A8 ?_)))
    rotate_left
    ·exact absurd rfl (by assumption)
    repeat refine nx rfl ?_
    exact An () ⟨rfl, rfl, rfl, rfl, rfl, trivial⟩ (kd.trans ed)
  ·refine D_E rfl ?_
   refine AV (out := [a0, a1, a2, a3, a4, b0, b1, b2, b3, b4]) rfl (by omega) (by rw [made10]; rfl) (fun y5 m5 => ?_)
   have e5 := er.trans m5.keep
   obtain ⟨S5, F5⟩ := FV.fresh (L := [[a0, a1, a2, a3, a4], [b0, b1, b2, b3, b4]]) m5 (FsAt.two (fad.ext er) rfl (fbd.ext er) rfl) (by simp)
   try replace S1 := S1.ext m5.keep
   try replace F1 := F1.ext m5.keep
   try replace fY := fY.ext m5.keep
   refine AJ ⟨Ext wd, fun _ e => e, e5, ?_⟩
   refine D_E rfl ?_
   refine AV (out := [a0, a1, a2, a3, a4]) rfl (by omega) (by rw [made5]; rfl) (fun y1 m1 => ?_)
   have e1 := e5.trans m1.keep
   obtain ⟨S1, F1⟩ := FV.fresh (L := [[a0, a1, a2, a3, a4]]) m1 (FsAt.one (fad.ext e5) rfl) (by simp)
   try replace S5 := S5.ext m1.keep
   try replace F5 := F5.ext m1.keep
   refine AJ ⟨Ext wd, fun _ e => e, e1, ?_⟩
   refine D_E rfl ?_
   refine AS (rlate_ok y1 15 1 A0 _ _ _ [hdA] S1 F1) rfl ?_
   rintro vY y2 ⟨q2, fY⟩
   obtain ⟨r0, r1, r2, r3, r4, rfl, or⟩ := FV.five fY
   have e2 := e1.trans q2
   try replace S5 := S5.ext q2
   try replace F5 := F5.ext q2
   refine AJ ⟨Ext wd, fun _ e => e, e2, ?_⟩
   refine D_E rfl ?_
   refine AS (rlate_ok y2 17 0 A0 _ _ _ [hdA, hdB] S5 F5) rfl ?_
   rintro vT y6 ⟨q6, fT⟩
   obtain ⟨s0, s1, s2, s3, s4, rfl, os⟩ := FV.five fT
   have e6 := e2.trans q6
   replace fY := fY.ext q6
   refine AJ ⟨Ext wd, fun _ e => e, e6, ?_⟩
   refine D_E rfl ?_
   refine AV (out := [r0, r1, r2, r3, r4, s0, s1, s2, s3, s4]) rfl (by omega) (by rw [made10]; rfl) (fun y7 m7 => ?_)
   have e7 := e6.trans m7.keep
   obtain ⟨S7, F7⟩ := FV.fresh (L := [[r0, r1, r2, r3, r4], [s0, s1, s2, s3, s4]]) m7 (FsAt.two fY rfl fT rfl) (by simp)
   refine AJ ⟨Ext wd, fun _ e => e, e7, ?_⟩
   refine D_E rfl ?_
   refine AS (rlate_ok y7 16 1 A0 _ _ _ [⟨15, [], 1, 0, [hdA]⟩, ⟨17, [], 0, 0, [hdA, hdB]⟩] S7 F7) rfl ?_
   rintro vS y8 ⟨q8, fU⟩
   obtain ⟨u0, u1, u2, u3, u4, rfl, ou⟩ := FV.five fU
   have e8 := e7.trans q8
   refine AJ ⟨Ext wd, fun _ e => e, e8, ?_⟩
   refine D_E rfl ?_
   refine AS (print_F y8 hd3 _ ⟨rfl, fU⟩ (hG.ext (kwd.trans e8)) (of_decide_eq_true (by kernel_rfl)) (hG.ext (kwd.trans e8)).size (fun _ => of_decide_eq_true (by kernel_rfl))) rfl ?_
   rintro _ y9 ⟨rfl, q9⟩
   rw [hd_p3]
   have e9 := e8.trans q9
   refine AJ ⟨Ext wd, fun _ e => e, e9, ?_⟩
   ((refine D_seql rfl rfl rfl rfl (fun hc => ?_) (fun hc => ?_)) <;> refine D_R rfl rfl (fun W hW => AB rfl Z3) ?_ <;> (first | refine Af rfl rfl rfl rfl ?_ | (apply D_R rfl rfl; (intro W hW; (refine AE rfl ?_; refine Ac rfl (by rfl) (ca W hW) ?_); exact AJ ⟨rfl, rfl, rfl⟩))) <;> (first | refine Af rfl rfl rfl rfl ?_ | (apply D_R rfl rfl; (intro W hW; (refine AE rfl ?_; refine Ac rfl (by rfl) (cb W hW) ?_); exact AJ ⟨rfl, rfl, rfl⟩))) <;> (first | refine Af rfl rfl rfl rfl ?_ | (apply D_R rfl rfl; (intro W hW; (refine AE rfl ?_; refine Ac rfl (by rfl) (ca W hW) ?_); exact AJ ⟨rfl, rfl, rfl⟩))) <;> (first | refine Af rfl rfl rfl rfl ?_ | (apply D_R rfl rfl; (intro W hW; (refine AE rfl ?_; refine Ac rfl (by rfl) (cb W hW) ?_); exact AJ ⟨rfl, rfl, rfl⟩))))
   rotate_left
   ·exact absurd rfl (by assumption)
   refine D_E rfl ?_
   refine AE rfl (AS (C9 y9 7 _ _ hdA hdB (fad.ext e9) (fbd.ext e9)) rfl ?_)
   rintro vI ya ⟨qa, fI⟩
   have ea := e9.trans qa
   refine AJ ⟨Ext wd, fun _ e => e, ea, ?_⟩
   refine D_E rfl ?_
   refine AE rfl (AS (C9 ya 7 _ _ hdA hdB (fad.ext ea) (fbd.ext ea)) rfl ?_)
   rintro vJ yb ⟨qb, fJ⟩
   have eb := ea.trans qb
   refine AJ ⟨Ext wd, fun _ e => e, eb, ?_⟩
   refine D_E rfl ?_
   refine AE rfl (AS (C9 yb 7 _ _ _ _ (fI.ext qb) fJ) rfl ?_)
   rintro vK yc ⟨qc, fK⟩
   obtain ⟨t0, t1, t2, t3, t4, rfl, ot⟩ := FV.five fK
   have ec := eb.trans qc
   refine AJ ⟨Ext wd, fun _ e => e, ec, ?_⟩
   refine D_E rfl ?_
   refine AE rfl (AS (print_F yc hd4 _ ⟨rfl, fK⟩ (hG.ext (kwd.trans ec)) (of_decide_eq_true (by kernel_rfl)) (hG.ext (kwd.trans ec)).size (fun _ => of_decide_eq_true (by kernel_rfl))) rfl ?_)
   rintro _ yd ⟨rfl, qd⟩
   rw [hd_p4]
   have ed := ec.trans qd
   refine AJ ⟨Ext wd, fun _ e => e, ed, ?_⟩
   ((refine D_seql rfl rfl rfl rfl (fun hc => ?_) (fun hc => ?_)) <;> refine D_R rfl rfl (fun W hW => AK rfl (AB rfl Z3)) (D_R rfl rfl (fun W hW => AC (AB rfl Z3)) (A8 ?_)))
   rotate_left
   ·exact absurd rfl (by assumption)
   repeat refine nx rfl ?_
   exact An () ⟨rfl, rfl, rfl, rfl, rfl, trivial⟩ (kd.trans ed)
 rintro _ v0 f0 kv
 replace fa := fa.ext kv
 replace ba := ba.keep kv (by simp)
 replace bS := bS.keep kv (by simp)
 replace fS := spcR.ext fS kv
 replace kv := kwc.trans kv
 clear bb fb kwc
 repeat refine nx rfl ?_
 have l1 := bS.lt
 obtain ⟨sv, rv, rfl, hsv, ra, rc, LR, rfl, SR, FR⟩ := fS
 obtain ⟨cy, hcy⟩ : ∃ cy, LR[2]? = some cy := ⟨_, List.getElem?_eq_getElem (by rw [FR.1]; decide)⟩
 have hcf := FR.2 2 cy _ hcy rfl
 obtain ⟨bq, oq, rfl, _, hcq⟩ := SR.recs FR (sz := 8) rfl hcy (by decide)
 obtain ⟨cf, rfl, hcl, hff⟩ := hcf
 obtain ⟨q0, q1, q2, q3, q4, rfl⟩ := Ch hcl
 (refine AA (Ad (by rfl) (by rfl) ?_) <;> refine Ad (by rfl) (by rfl) ?_)
 refine AS (print_D v0 ⟨2, ⟨[], [103], 0, zeroF⟩⟩ [.int .i64 2, AL [], AL [103], .int .i64 0, .int .i64 0, AL [], .int .i64 0, .int .i64 0, .slice none 0 0] ⟨_, rfl, _, rfl, rfl, FAt.leaf _ _ _ _ _ _⟩ (hG.ext kv) (of_decide_eq_true (by kernel_rfl)) (hG.ext kv).size (fun _ => of_decide_eq_true (by kernel_rfl))) rfl ?_
 rintro _ v1 ⟨rfl, j1⟩
 rw [hd_p6]
 have e1 : v1.cell? ⟨w1.heap.size, 0 + 1, none⟩ = some (.slice (some ⟨bq, oq, none⟩) 3 rc) := (bS.keep j1 (by simp)).cell rfl
 refine CM rfl rfl (fun _ => ?_) (fun h => absurd rfl h)
 refine AB rfl (AE rfl (AD rfl (AE rfl (AG rfl (by assumption) ?_))))
 refine AE rfl (CD (k := 2) rfl rfl rfl (by decide) ?_)
 refine AE rfl (Ac (L := [AL [113], AL [111, 110, 101], .int .i64 2, q0, q1, q2, q3, q4]) rfl rfl (hcq.keep j1 (by simp)) ?_)
 refine AE rfl (Ad (by rfl) (by rfl) ?_)
 refine AE rfl (AS (print_D v1 ⟨1, ⟨[113], [111, 110, 101], 2, isF [103] 2⟩⟩ [.int .i64 1, AL [113], AL [111, 110, 101], .int .i64 2, q0, q1, q2, q3, q4] ⟨_, rfl, _, rfl, rfl, hff.ext j1⟩ (hG.ext (kv.trans j1)) (of_decide_eq_true (by kernel_rfl)) (hG.ext (kv.trans j1)).size (fun _ => of_decide_eq_true (by kernel_rfl))) rfl ?_)
 rintro _ v2 ⟨rfl, j2⟩
 rw [hd_p7]
 (refine AE rfl ?_; refine CM rfl rfl (fun _ => ?_) (fun h => absurd rfl h))
 refine AK rfl (AB rfl (AB rfl ?_))
 refine AE rfl (AS (ris_ok v2 [71] 1) rfl ?_)
 rintro vg v3 ⟨j3, fg⟩
 obtain ⟨g0, g1, g2, g3, g4, rfl, og⟩ := FV.five fg
 have j13 := (j1.trans j2).trans j3
 have kv3 := kv.trans j13
 refine AE rfl (AS (print_F v3 (isF [71] 1) _ ⟨rfl, fg⟩ (hG.ext kv3) (of_decide_eq_true (by kernel_rfl)) (hG.ext kv3).size (fun _ => of_decide_eq_true (by kernel_rfl))) rfl ?_)
 rintro _ v4 ⟨rfl, j4⟩
 rw [hd_p5]
 have kv4 := kv3.trans j4
 (refine AE rfl ?_; refine CM rfl rfl (fun _ => ?_) (fun h => absurd rfl h))
 refine AK rfl (AB rfl (AB rfl (AE rfl (Ad (by rfl) (by rfl) ?_))))
 refine AE rfl (AS (print_D v4 ⟨0, ⟨[], [], 0, zeroF⟩⟩ [.int .i64 0, AL [], AL [], .int .i64 0, .int .i64 0, AL [], .int .i64 0, .int .i64 0, .slice none 0 0] ⟨_, rfl, _, rfl, rfl, FAt.leaf _ _ _ _ _ _⟩ (hG.ext kv4) (of_decide_eq_true (by kernel_rfl)) (hG.ext kv4).size (fun _ => of_decide_eq_true (by kernel_rfl))) rfl ?_)
 rintro _ v5 ⟨rfl, j5⟩
 rw [hd_p8]
 (refine AE rfl ?_; refine CM rfl rfl (fun _ => ?_) (fun h => absurd rfl h))
 refine AK rfl (AB rfl (AC (AB rfl ?_)))
 repeat refine nx rfl ?_
 have kv5 := kv4.trans j5
 refine AA ?_
 refine AS (lexK v5 _ _ 2 hd_lex rfl (hG.ext kv5).gk.gv) rfl ?_
 rintro _ v6 ⟨la, lc, rfl, j6, _⟩
 have j06 := ((j13.trans j4).trans j5).trans j6
 have kv6 := kv.trans j06
 refine Bp rfl (Ag rfl rfl (Ag rfl rfl (Ag rfl rfl (AC (Ae rfl (AC (AF rfl (AC (AF rfl ?_)))))))))
 repeat refine nx rfl ?_
 have b6 := bS.keep j06 (by simp)
 have e6 : v6.cell? ⟨w1.heap.size, 0 + 0, none⟩ = some sv := b6.cell rfl
 refine AA (AB rfl (AB rfl (AE rfl (AB rfl (AK rfl (AB rfl (AB rfl (AE rfl (AB rfl (AK rfl (AB rfl (AB rfl (AE rfl (AB rfl (AK rfl (AB rfl (AB rfl (AE rfl (AF rfl (AE rfl (Av rfl rfl (by omega) (AK rfl (AB rfl (AB rfl (AE rfl (Ae rfl (AE rfl (As rfl (AE rfl (Av rfl rfl (by omega) (AK rfl (AB rfl (AB rfl ?_)))))))))))))))))))))))))))))))))
 refine AE rfl (AX rfl (ba.keep j06 (by simp)) rfl ?_)
 refine AE rfl (AS (fsize_ok v6 _ hdA (fa.ext j06) (hF.ext kv6) (hG.ext kv6).size (of_decide_eq_true (by kernel_rfl)) (of_decide_eq_true (by kernel_rfl))) rfl ?_)
 rintro _ v7 ⟨rfl, j7⟩
 rw [show ((szF hdA : Nat) : Int) = 1 by kernel_rfl]
 have e7 : v7.cell? ⟨w1.heap.size, 0 + 0, none⟩ = some sv := j7.cell e6 (by simp)
 refine AE rfl (Av rfl rfl (by omega) (AK rfl (AB rfl (AB rfl (AE rfl (AD rfl (AE rfl (AG rfl (by assumption) ?_))))))))
 refine AE rfl (AS (sigFind_ok v7 sv exS.sigs [103] ((hsv.ext j06).ext j7)) rfl ?_)
 rintro _ v8 ⟨rfl, rfl⟩
 rw [show findM exS.sigs [103] = 1 by kernel_rfl]
 refine AE rfl (Av rfl rfl (by omega) (AK rfl (AB rfl (AC (AB rfl ?_)))))
 repeat refine nx rfl ?_
 exact AO rfl ⟨rfl, kv6.trans j7⟩
end Go.Proofs.YtfcgdbmoncnibaaGreatDoor
namespace Go.Proofs.YtfcgdbmoncnibaaGreatDoor
open Go.RowKit
set_option linter.unusedVariables false
theorem spcT_len {s : Spc} (h : CL s = true) : (spcT s).length ≤ 44 * szS s := by
 simp only [CL, Bool.and_eq_true] at h
 have h1 := sigs_len _ h.1
 have h2 := rqs_len s.reqs s.reqs.length (Nat.le_refl _) (by rw [List.take_length]; exact h.2)
 rw [List.take_length] at h2
 unfold spcT rqsT szS
 rw [List.length_append]; omega
theorem prtF_len {f : Fml} (h : okF f = true) : (prF 0 f).length ≤ 44 * szF f := by have := prF_len _ f (Nat.le_refl _) h 0; omega
def fT (f : Fml) : List UInt8 := if okF f then prF 0 f else []
def sT (s : Spc) : List UInt8 := if CL s then spcT s else []
theorem fT_len (f : Fml) : (fT f).length ≤ 44 * szF f := by unfold fT; split; exact prtF_len (by assumption); simp
theorem sT_len (s : Spc) : (sT s).length ≤ 44 * szS s := by unfold sT; split; exact spcT_len (by assumption); simp
theorem prtF_ok (w : World) (v : Value) (f : Fml) (hf : FAt A0 w v f) (hG : GP w) (hz : szF f ≤ 1000000) : Fn Tryz.prog 14 [v] w fun u w' => u = AL (fT f) ∧ Ext w w' := by
 obtain ⟨c, rfl, hc, _⟩ := hf.cells
 exact print_F w f c ⟨hc, hf⟩ hG hz hG.size fun h => by have := prtF_len h; omega
theorem prtS_ok (w : World) (c : List Value) (s : Spc) (hs : spcR.fits A0 w c s) (hG : GP w) (hz : szS s ≤ 1000000) : Fn Tryz.prog 16 [.agg c.toArray] w fun u w' => u = AL (sT s) ∧ Ext w w' :=
 print_S w s c hs hG hz hG.size fun h => by have := spcT_len h; omega
end Go.Proofs.YtfcgdbmoncnibaaGreatDoor
namespace Go.Proofs.YtfcgdbmoncnibaaGreatDoor
set_option linter.unusedVariables false
variable {mk : Prop} [MK mk]
def tkn (b : BT) : Tok := ⟨b.1, b.2, 0⟩
abbrev BF (bs : List BT) : List Tok := bs.map tkn
theorem toks_bare (bs : List BT) : (BF bs).map bare = bs := by
 rw [BF, List.map_map, show (bare ∘ tkn) = id from rfl, List.map_id]
def stopB (n : Nat) (b : BT) : Bool := !Aw [61] (some b) && !Aw [33, 61] (some b) && (decide (4 ≤ n) || ((infixT.lookup b.2).isNone && (decide (3 ≤ n) || (!Aw [38] (some b) && (decide (2 ≤ n) || (!Aw [124] (some b) && (decide (1 ≤ n) || !Aw [45, 62] (some b))))))))
def StopL (n : Nat) (r : List Tok) : Prop := ∀ x, r.head? = some x → stopB n (bare x) = true
theorem StopL.nil (n : Nat) : StopL n [] := fun x h => by cases h
theorem StopL.cons {n : Nat} {x : Tok} {r : List Tok} (h : stopB n (bare x) = true) : StopL n (x :: r) := fun y hy => by cases hy; exact h
theorem StopL.mono {n m : Nat} (hnm : n ≤ m) {r : List Tok} (h : StopL n r) : StopL m r := by
 intro x hx
 have := h x hx
 simp only [stopB, Bool.and_eq_true, Bool.or_eq_true, decide_eq_true_eq] at this ⊢
 obtain ⟨h1, h2⟩ := this
 refine ⟨h1, ?_⟩
 rcases h2 with h2 | ⟨h2, h3⟩
 ·left; omega
 ·right; refine ⟨h2, ?_⟩
  rcases h3 with h3 | ⟨h3, h4⟩
  ·left; omega
  ·right; refine ⟨h3, ?_⟩
   rcases h4 with h4 | ⟨h4, h5⟩
   ·left; omega
   ·right; refine ⟨h4, ?_⟩
    rcases h5 with h5 | h5
    ·left; omega
    ·right; exact h5
theorem sees_of {s : List UInt8} {r : List Tok} (h : ∀ x, r.head? = some x → Aw s (some (bare x)) = false) : Aw s (r.head?.map bare) = false := by
 cases hr : r.head? with
 | none => rfl
 | some x => exact h x hr
section
variable {n : Nat} {r : List Tok} (h : StopL n r)
include h
theorem StopL.eq : Aw [61] (r.head?.map bare) = false := sees_of fun x hx => by
 have := h x hx
 simp only [stopB, Bool.and_eq_true, Bool.not_eq_true'] at this
 exact this.1.1
theorem StopL.ne : Aw [33, 61] (r.head?.map bare) = false := sees_of fun x hx => by
 have := h x hx
 simp only [stopB, Bool.and_eq_true, Bool.not_eq_true'] at this
 exact this.1.2
theorem StopL.inf (hn : n ≤ 3) : ∀ x, r.head? = some x → infixT.lookup x.text = none := fun x hx => by
 have := h x hx
 simp only [stopB, Bool.and_eq_true, Bool.or_eq_true, decide_eq_true_eq, Option.isNone_iff_eq_none] at this
 rcases this.2 with h2 | ⟨h2, _⟩
 ·omega
 ·exact h2
theorem StopL.and (hn : n ≤ 2) : Aw [38] (r.head?.map bare) = false := sees_of fun x hx => by
 have := h x hx
 simp only [stopB, Bool.and_eq_true, Bool.or_eq_true, decide_eq_true_eq, Bool.not_eq_true'] at this
 rcases this.2 with h2 | ⟨h2, h3 | ⟨h3, _⟩⟩
 ·omega
 ·omega
 ·exact h3
theorem StopL.or (hn : n ≤ 1) : Aw [124] (r.head?.map bare) = false := sees_of fun x hx => by
 have := h x hx
 simp only [stopB, Bool.and_eq_true, Bool.or_eq_true, decide_eq_true_eq, Bool.not_eq_true'] at this
 rcases this.2 with h2 | ⟨h2, h3 | ⟨h3, h4 | ⟨h4, _⟩⟩⟩
 ·omega
 ·omega
 ·omega
 ·exact h4
theorem StopL.imp (hn : n = 0) : Aw [45, 62] (r.head?.map bare) = false := sees_of fun x hx => by
 have := h x hx
 simp only [stopB, Bool.and_eq_true, Bool.or_eq_true, decide_eq_true_eq, Bool.not_eq_true'] at this
 rcases this.2 with h2 | ⟨h2, h3 | ⟨h3, h4 | ⟨h4, h5 | h5⟩⟩⟩
 ·omega
 ·omega
 ·omega
 ·omega
 ·exact h5
end
def RunL : Nat → List Tok → Fml → List Tok → Prop
 | 0, l, f, r => RunN .formula l (.ok (f, r))
 | 1, l, f, r => RunN .orN l (.ok (f, r))
 | 2, l, f, r => RunN .andN l (.ok (f, r))
 | 3, l, f, r => RunN .untilN l (.ok (f, r))
 | _, l, f, r => RunN .unary l (.ok (f, r))
theorem climb1 : ∀ {n : Nat} {l r : List Tok} {f : Fml}, n ≤ 3 → RunL (n + 1) l f r → StopL n r → RunL n l f r
 | 0, _, _, _, _, h, s => up_imp h (s.imp rfl)
 | 1, _, _, _, _, h, s => up_or h (s.or (Nat.le_refl _))
 | 2, _, _, _, _, h, s => up_and h (s.and (Nat.le_refl _))
 | 3, _, _, _, _, h, s => up_until h (s.inf (Nat.le_refl _))
 | n + 4, _, _, _, hn, _, _ => by omega
theorem climb : ∀ (d n : Nat) {l r : List Tok} {f : Fml}, n + d ≤ 4 → RunL (n + d) l f r → StopL n r → RunL n l f r
 | 0, _, _, _, _, _, h, _ => h
 | d + 1, n, l, r, f, hd, h, s => climb1 (by omega) (climb d (n + 1) (by omega) (by rw [show n + 1 + d = n + (d + 1) by omega]; exact h) (s.mono (by omega))) s
theorem ix0 {o : Opr} (r : List Tok) (h : o.indexed = 0) : Run (DG o) r (.ok (none, r)) := by
 unfold DG; rw [if_pos h]; exact Run.ret _ _
theorem ixNo {o : Opr} {r : List Tok} (h : Aw [91] (r.head?.map bare) = false) : Run (DG o) r (.ok (none, r)) := by
 unfold DG
 split
 ·exact Run.ret _ _
 ·exact C7 h (Run.ret _ _)
theorem ixYes {o : Opr} {v : Int} {r : List Tok} (h : o.indexed ≠ 0) (hv : 0 ≤ v) : Run (DG o) (tkn (3, [91]) :: tkn (2, CI v) :: tkn (3, [93]) :: r) (.ok (some v, r)) := by
 unfold DG
 rw [if_neg h]
 have e : Da (tkn (2, CI v)).text = v := numOf_numT hv
 have := run_number (q := fun n => (B7 [93]).bind fun _ => .ret (some n)) (x := tkn (2, CI v)) (l := tkn (3, [93]) :: r) rfl (CS rfl (Run.ret _ _))
 rw [e] at this
 exact run_yes rfl this
theorem un_bin {l r1 r2 r : List Tok} {t1 : Tok} {o : Opr} {n : Option Int} {f g : Fml} (h1 : RunN .unary l (.ok (f, t1 :: r1))) (ht : infixT.lookup t1.text = some o) (hi : Run (DG o) r1 (.ok (n, r2))) (h2 : RunN .untilN r2 (.ok (g, r))) :
  RunN .untilN l (.ok (⟨o.op, [], n.getD o.val, 0, [f, g]⟩, r)) :=
 Run.call h1 (run_take ht (hi.bind (Run.call h2 (Run.ret _ _))))
theorem un_pre {r1 r2 r : List Tok} {t1 : Tok} {o : Opr} {n : Option Int} {g : Fml} (ht : prefixT.lookup t1.text = some o) (hi : Run (DG o) r1 (.ok (n, r2))) (h2 : RunN .unary r2 (.ok (g, r))) :
  RunN .unary (t1 :: r1) (.ok (match n with | some n => ⟨o.indexed, [], o.val, n, [g]⟩ | none => ⟨o.op, [], o.val, 0, [g]⟩, r)) := by
 refine run_take ht (hi.bind (Run.call h2 ?_))
 cases n <;> exact Run.ret _ _
theorem lookup_keyS {β : Type} {a : List UInt8} {b : β} : ∀ {l : List (List UInt8 × β)}, l.lookup a = some b → a ∈ l.map (·.1)
 | [], h => by cases h
 | (k, v) :: l, h => by
  rw [List.lookup_cons] at h
  by_cases hk : a = k
  ·simp [hk]
  ·rw [show (a == k) = false by simpa using hk] at h
   have := lookup_keyS (l := l) h
   simp only [List.map_cons, List.mem_cons]
   exact .inr this
theorem name_pre {nm : List UInt8} (h : BV nm = true) : prefixT.lookup nm = none := by
 cases ho : prefixT.lookup nm with
 | none => rfl
 | some o =>
  have := lookup_keyS ho
  obtain ⟨_, _, h3, _⟩ := Bf h
  simp only [prefixT, List.map_cons, List.map_nil, List.mem_cons, List.not_mem_nil, or_false] at this
  rcases this with rfl | rfl | rfl | rfl | rfl | rfl | rfl | rfl <;> exact absurd h3 (by decide)
theorem name_sees {nm s : List UInt8} (h : BV nm = true) (hs : s ∈ keysL ∨ A4 (s.getD 0 0) = false) : Aw s (some (1, nm)) = false := by
 obtain ⟨_, _, h3, _, h5⟩ := Bf h
 have : nm ≠ s := by
  rintro rfl
  rcases hs with hs | hs
  ·exact h5 hs
  ·rw [h3] at hs; cases hs
 simp [Aw, this]
theorem run_word {w : List UInt8} {r : List Tok} {f : Fml} (hp : prefixT.lookup w = none) (h : RunN .primary (tkn (1, w) :: r) (.ok (f, r))) : RunN .unary (tkn (1, w) :: r) (.ok (f, r)) :=
 run_take_no (fun z hz => by cases hz; exact hp) (Run.call h (Run.ret _ _))
theorem run_true (r : List Tok) : RunN .unary (tkn (1, [116, 114, 117, 101]) :: r) (.ok (⟨1, [], 0, 0, []⟩, r)) := run_word (by decide) (run_yes rfl (Run.ret _ _))
theorem run_false (r : List Tok) : RunN .unary (tkn (1, [102, 97, 108, 115, 101]) :: r) (.ok (⟨2, [], 0, 0, []⟩, r)) := run_word (by decide) (C7 rfl (run_yes rfl (Run.ret _ _)))
theorem run_is {nm : List UInt8} {v : Int} {r : List Tok} (h : BV nm = true) (hv : 0 ≤ v) (hr : StopL 4 r) : RunN .unary (BF ((1, nm) :: if v = 1 then [] else [(3, [61]), (2, CI v)]) ++ r) (.ok (⟨3, nm, v, 0, []⟩, r)) := by
 refine run_take_no (fun z hz => by cases hz; exact name_pre h) (Run.call (nt := .primary) (l' := r) (v := (⟨3, nm, v, 0, []⟩ : Fml)) ?_ (Run.ret _ _))
 refine C7 (name_sees h (.inl (by decide))) (C7 (name_sees h (.inl (by decide))) (C7 (name_sees h (.inr (by decide))) ?_))
 refine run_name (x := tkn (1, nm)) rfl h ?_
 by_cases h1 : v = 1
 ·rw [if_pos h1]
  subst h1
  exact C7 hr.eq (C7 hr.ne (Run.ret _ _))
 ·rw [if_neg h1]
  refine run_yes (x := tkn (3, [61])) rfl ?_
  have e : Da (tkn (2, CI v)).text = v := numOf_numT hv
  have := run_number (q := fun n => .ret (isF nm n)) (x := tkn (2, CI v)) (l := r) rfl (Run.ret _ _)
  rw [e] at this
  exact this
def RunsF (f : Fml) : Prop := ∀ (n : Nat) (r : List Tok), n ≤ 4 → StopL n r → RunL n (BF (tkF n f) ++ r) f r
theorem tk_head : ∀ (m : Nat) (f : Fml) (n : Nat), SizeOf.sizeOf f ≤ m → okF f = true → ∃ x t, tkF n f = x :: t ∧ Aw [91] (some x) = false
 | 0, f, n, hm, _ => by cases f; simp at hm
 | m + 1, .mk op nm v b args, n, hm, hok => by
  simp only [okF, Bool.and_eq_true] at hok
  simp only [tkF]
  by_cases hlv : (Bh op).level < n
  ·rw [decide_eq_true hlv]
   exact ⟨_, _, rfl, by decide⟩
  ·rw [decide_eq_false hlv]
   show ∃ x t, tkA _ _ _ _ = x :: t ∧ _
   have hsg : args.length < 2 → ∃ x t, sgK op nm v b = x :: t ∧ Aw [91] (some x) = false := fun h2 => by
    obtain ⟨st, hst, q1, q2, q3, q4, q5, q6, q7, q8⟩ := node_parts hok.1
    rcases op_cases hst with rfl | rfl | rfl | rfl | rfl | rfl | rfl | rfl | rfl | rfl | rfl | rfl | rfl | rfl | rfl | rfl | rfl | rfl | rfl
    case inr.inr.inl => exact ⟨_, _, rfl, name_sees (q7 rfl) (.inr (by decide))⟩
    case inr.inr.inr.inr.inr.inr.inr.inr.inr.inr.inr.inr.inr.inr.inl =>
     by_cases hv : v = 0
     ·exact ⟨_, _, by simp only [sgK, if_pos hv]; rfl, by decide⟩
     ·exact ⟨_, _, by simp only [sgK, if_neg hv]; rfl, by decide⟩
    all_goals exact ⟨_, _, rfl, by decide⟩
   match args, hok, hsg with
   | [], _, hsg => exact hsg (by simp)
   | [a], _, hsg =>
    obtain ⟨x, t, e, hx⟩ := hsg (by simp)
    exact ⟨x, t ++ (tkF (Bh op).first a ++ tkR (Bh op).next (sgK op nm v b) []), by simp [tkA, e], hx⟩
   | a :: c :: l, hok, _ =>
    simp only [okL, Bool.and_eq_true] at hok
    obtain ⟨x, t, e, hx⟩ := tk_head m a (Bh op).first (by simp at hm; omega) hok.2.1
    exact ⟨x, t ++ tkR (Bh op).next (sgK op nm v b) (c :: l), by simp [tkA, e], hx⟩
theorem tk_open {f : Fml} (hok : okF f = true) (n : Nat) (r : List Tok) : Aw [91] ((BF (tkF n f) ++ r).head?.map bare) = false := by
 obtain ⟨x, t, e, hx⟩ := tk_head _ f n (Nat.le_refl _) hok
 rw [e]; exact hx
theorem andL_run : ∀ (l : List Fml), (∀ a ∈ l, RunsF a) → ∀ r : List Tok, StopL 2 r → RunN .andL (BF (tkR 3 [(3, [38])] l) ++ r) (.ok (l, r)) ∧ StopL 3 (BF (tkR 3 [(3, [38])] l) ++ r)
 | [], _, r, hr => ⟨C7 (hr.and (Nat.le_refl _)) (Run.ret _ _), hr.mono (by omega)⟩
 | a :: l, hl, r, hr => by
  obtain ⟨h1, h2⟩ := andL_run l (fun c hc => hl c (by simp [hc])) r hr
  refine ⟨?_, StopL.cons (by decide)⟩
  have := hl a (by simp) 3 _ (by omega) h2
  simp only [tkR, BF, List.map_append, List.append_assoc, List.map_cons, List.map_nil, List.cons_append, List.nil_append] at this ⊢
  exact run_yes rfl (Run.call this (Run.call h1 (Run.ret _ _)))
theorem orL_run : ∀ (l : List Fml), (∀ a ∈ l, RunsF a) → ∀ r : List Tok, StopL 1 r → RunN .orL (BF (tkR 2 [(3, [124])] l) ++ r) (.ok (l, r)) ∧ StopL 2 (BF (tkR 2 [(3, [124])] l) ++ r)
 | [], _, r, hr => ⟨C7 (hr.or (Nat.le_refl _)) (Run.ret _ _), hr.mono (by omega)⟩
 | a :: l, hl, r, hr => by
  obtain ⟨h1, h2⟩ := orL_run l (fun c hc => hl c (by simp [hc])) r hr
  refine ⟨?_, StopL.cons (by decide)⟩
  have := hl a (by simp) 2 _ (by omega) h2
  simp only [tkR, BF, List.map_append, List.append_assoc, List.map_cons, List.map_nil, List.cons_append, List.nil_append] at this ⊢
  exact run_yes rfl (Run.call this (Run.call h1 (Run.ret _ _)))
end Go.Proofs.YtfcgdbmoncnibaaGreatDoor
namespace Go.Proofs.YtfcgdbmoncnibaaGreatDoor
set_option linter.unusedVariables false
variable {mk : Prop} [MK mk]
theorem tkA_one (f n : Nat) (sg : List BT) (a : Fml) : tkA f n sg [a] = sg ++ tkF f a := by simp [tkA, tkR]
theorem tkA_two (f n : Nat) (sg : List BT) (a c : Fml) : tkA f n sg [a, c] = tkF f a ++ (sg ++ tkF n c) := by simp [tkA, tkR]
theorem tkA_more (f n : Nat) (sg : List BT) (a c : Fml) (l : List Fml) : tkA f n sg (a :: c :: l) = tkF f a ++ tkR n sg (c :: l) := by simp [tkA]
theorem BR (x y : List BT) (r : List Tok) : BF (x ++ y) ++ r = BF x ++ (BF y ++ r) := by simp [BF]
theorem one_of {l : List Fml} (h1 : 1 ≤ l.length) (h2 : l.length ≤ 1) : ∃ a, l = [a] := by
 match l, h1, h2 with
 | [a], _, _ => exact ⟨a, rfl⟩
theorem two_of {l : List Fml} (h1 : 2 ≤ l.length) (h2 : l.length ≤ 2) : ∃ a c, l = [a, c] := by
 match l, h1, h2 with
 | [a, c], _, _ => exact ⟨a, c, rfl⟩
theorem more_of {l : List Fml} (h1 : 2 ≤ l.length) : ∃ a c k, l = a :: c :: k := by
 match l, h1 with
 | a :: c :: k, _ => exact ⟨a, c, k, rfl⟩
set_option maxHeartbeats 1600000 in
theorem body_run {op v b : Int} {nm : List UInt8} {args : List Fml} (h : Cu op nm v b args.length = true) (hok : okL args = true) (hl : ∀ a ∈ args, RunsF a) {r : List Tok} (hr : StopL (min (Bh op).level 4) r) :
  RunL (min (Bh op).level 4) (BF (tkA (Bh op).first (Bh op).next (sgK op nm v b) args) ++ r) (.mk op nm v b args) r := by
 obtain ⟨st, hst, q1, q2, q3, q4, q5, q6, q7, q8⟩ := node_parts h
 rcases op_cases hst with rfl | rfl | rfl | rfl | rfl | rfl | rfl | rfl | rfl | rfl | rfl | rfl | rfl | rfl | rfl | rfl | rfl | rfl | rfl <;> simp [Bc, styL, List.lookup] at hst <;> subst hst <;> simp only at q1 q2 q4 q6
 ·obtain rfl := List.length_eq_zero_iff.1 (Nat.le_zero.1 q2)
  obtain rfl := q8 (by decide)
  obtain rfl : v = 0 := by omega
  obtain rfl : b = 0 := by omega
  exact run_true r
 ·obtain rfl := List.length_eq_zero_iff.1 (Nat.le_zero.1 q2)
  obtain rfl := q8 (by decide)
  obtain rfl : v = 0 := by omega
  obtain rfl : b = 0 := by omega
  exact run_false r
 ·obtain rfl := List.length_eq_zero_iff.1 (Nat.le_zero.1 q2)
  obtain rfl : b = 0 := by omega
  exact run_is (q7 rfl) q3 hr
 ·obtain rfl : v = 0 := by omega
  obtain rfl : b = 0 := by omega
  obtain ⟨a, rfl⟩ := one_of q1 q2
  obtain rfl := q8 (by decide)
  rw [tkA_one, BR]
  have ha := hl a (by simp) 4 r (by omega) (hr.mono (by decide))
  have ho : okF a = true := Bs hok a (by simp)
  exact un_pre (o := ⟨4, 0, 0⟩) (n := none) rfl (ix0 _ rfl) ha
 ·obtain ⟨a, c, l, rfl⟩ := more_of q1
  obtain rfl := q8 (by decide)
  obtain rfl : v = 0 := by omega
  obtain rfl : b = 0 := by omega
  rw [tkA_more, BR]
  obtain ⟨h1, h2⟩ := andL_run (c :: l) (fun d hd => hl d (by simp at hd; simp [hd])) r hr
  have ha := hl a (by simp) 3 _ (by omega) h2
  exact Run.call ha (Run.call h1 (Run.ret _ _))
 ·obtain ⟨a, c, l, rfl⟩ := more_of q1
  obtain rfl := q8 (by decide)
  obtain rfl : v = 0 := by omega
  obtain rfl : b = 0 := by omega
  rw [tkA_more, BR]
  obtain ⟨h1, h2⟩ := orL_run (c :: l) (fun d hd => hl d (by simp at hd; simp [hd])) r hr
  have ha := hl a (by simp) 2 _ (by omega) h2
  exact Run.call ha (Run.call h1 (Run.ret _ _))
 ·obtain ⟨a, c, rfl⟩ := two_of q1 q2
  obtain rfl := q8 (by decide)
  obtain rfl : v = 0 := by omega
  obtain rfl : b = 0 := by omega
  have hc := hl c (by simp) 0 r (by omega) hr
  rw [tkA_two, BR, BR]
  have ha := hl a (by simp) 1 (tkn (3, [45, 62]) :: (BF (tkF 0 c) ++ r)) (by omega) (StopL.cons (by decide))
  exact Run.call ha (run_yes rfl (Run.call hc (Run.ret _ _)))
 ·obtain rfl : v = 0 := by omega
  obtain rfl : b = 0 := by omega
  obtain ⟨a, rfl⟩ := one_of q1 q2
  obtain rfl := q8 (by decide)
  rw [tkA_one, BR]
  have ha := hl a (by simp) 4 r (by omega) (hr.mono (by decide))
  have ho : okF a = true := Bs hok a (by simp)
  exact un_pre (o := ⟨8, 0, 0⟩) (n := none) rfl (ix0 _ rfl) ha
 ·obtain ⟨a, c, rfl⟩ := two_of q1 q2
  obtain rfl := q8 (by decide)
  obtain rfl : v = 0 := by omega
  obtain rfl : b = 0 := by omega
  have hc := hl c (by simp) 3 r (by omega) (hr.mono (by decide))
  have ho : okF c = true := Bs hok c (by simp)
  rw [tkA_two, BR, BR]
  exact un_bin (hl a (by simp) 4 _ (by omega) (StopL.cons (x := tkn (1, [85])) (by decide))) rfl (ix0 (o := ⟨9, 0, 0⟩) _ rfl) hc
 ·obtain ⟨a, c, rfl⟩ := two_of q1 q2
  obtain rfl := q8 (by decide)
  obtain rfl : v = 0 := by omega
  obtain rfl : b = 0 := by omega
  have hc := hl c (by simp) 3 r (by omega) (hr.mono (by decide))
  have ho : okF c = true := Bs hok c (by simp)
  rw [tkA_two, BR, BR]
  exact un_bin (hl a (by simp) 4 _ (by omega) (StopL.cons (x := tkn (1, [82])) (by decide))) rfl (ix0 (o := ⟨10, 0, 0⟩) _ rfl) hc
 ·obtain rfl : v = 0 := by omega
  obtain rfl : b = 0 := by omega
  obtain ⟨a, rfl⟩ := one_of q1 q2
  obtain rfl := q8 (by decide)
  rw [tkA_one, BR]
  have ha := hl a (by simp) 4 r (by omega) (hr.mono (by decide))
  have ho : okF a = true := Bs hok a (by simp)
  exact un_pre (o := ⟨11, 13, 0⟩) (n := none) rfl (ixNo (tk_open ho 4 r)) ha
 ·obtain rfl : v = 0 := by omega
  obtain rfl : b = 0 := by omega
  obtain ⟨a, rfl⟩ := one_of q1 q2
  obtain rfl := q8 (by decide)
  rw [tkA_one, BR]
  have ha := hl a (by simp) 4 r (by omega) (hr.mono (by decide))
  have ho : okF a = true := Bs hok a (by simp)
  exact un_pre (o := ⟨12, 14, 0⟩) (n := none) rfl (ixNo (tk_open ho 4 r)) ha
 ·obtain rfl : v = 0 := by omega
  obtain ⟨a, rfl⟩ := one_of q1 q2
  obtain rfl := q8 (by decide)
  rw [tkA_one, BR]
  have ha := hl a (by simp) 4 r (by omega) (hr.mono (by decide))
  have ho : okF a = true := Bs hok a (by simp)
  exact un_pre (o := ⟨11, 13, 0⟩) (n := some b) rfl (ixYes (by decide) q5) ha
 ·obtain rfl : v = 0 := by omega
  obtain ⟨a, rfl⟩ := one_of q1 q2
  obtain rfl := q8 (by decide)
  rw [tkA_one, BR]
  have ha := hl a (by simp) 4 r (by omega) (hr.mono (by decide))
  have ho : okF a = true := Bs hok a (by simp)
  exact un_pre (o := ⟨12, 14, 0⟩) (n := some b) rfl (ixYes (by decide) q5) ha
 ·obtain rfl : b = 0 := by omega
  rcases (show v = 0 ∨ v = 1 by omega) with rfl | rfl
  ·obtain ⟨a, rfl⟩ := one_of q1 q2
   obtain rfl := q8 (by decide)
   rw [tkA_one, BR]
   have ha := hl a (by simp) 4 r (by omega) (hr.mono (by decide))
   have ho : okF a = true := Bs hok a (by simp)
   exact un_pre (o := ⟨15, 0, 0⟩) (n := none) rfl (ix0 _ rfl) ha
  ·obtain ⟨a, rfl⟩ := one_of q1 q2
   obtain rfl := q8 (by decide)
   rw [tkA_one, BR]
   have ha := hl a (by simp) 4 r (by omega) (hr.mono (by decide))
   have ho : okF a = true := Bs hok a (by simp)
   exact un_pre (o := ⟨15, 0, 1⟩) (n := none) rfl (ix0 _ rfl) ha
 ·obtain ⟨a, c, rfl⟩ := two_of q1 q2
  obtain rfl := q8 (by decide)
  obtain rfl : b = 0 := by omega
  by_cases hv : v = 0
  ·subst hv
   have hc := hl c (by simp) 3 r (by omega) (hr.mono (by decide))
   have ho : okF c = true := Bs hok c (by simp)
   rw [tkA_two, BR, BR]
   exact un_bin (hl a (by simp) 4 _ (by omega) (StopL.cons (x := tkn (1, [83])) (by decide))) rfl (ixNo (o := ⟨16, 16, 0⟩) (tk_open ho 3 r)) hc
  ·simp only [sgK, if_neg hv]
   have hc := hl c (by simp) 3 r (by omega) (hr.mono (by decide))
   have ho : okF c = true := Bs hok c (by simp)
   rw [tkA_two, BR, BR]
   exact un_bin (hl a (by simp) 4 _ (by omega) (StopL.cons (x := tkn (1, [83])) (by decide))) rfl (ixYes (o := ⟨16, 16, 0⟩) (by decide) q3) hc
 ·obtain ⟨a, c, rfl⟩ := two_of q1 q2
  obtain rfl := q8 (by decide)
  obtain rfl : b = 0 := by omega
  by_cases hv : v = 1
  ·subst hv
   have hc := hl c (by simp) 3 r (by omega) (hr.mono (by decide))
   have ho : okF c = true := Bs hok c (by simp)
   rw [tkA_two, BR, BR]
   exact un_bin (hl a (by simp) 4 _ (by omega) (StopL.cons (x := tkn (1, [84])) (by decide))) rfl (ixNo (o := ⟨17, 17, 1⟩) (tk_open ho 3 r)) hc
  ·simp only [sgK, if_neg hv]
   have hc := hl c (by simp) 3 r (by omega) (hr.mono (by decide))
   have ho : okF c = true := Bs hok c (by simp)
   rw [tkA_two, BR, BR]
   exact un_bin (hl a (by simp) 4 _ (by omega) (StopL.cons (x := tkn (1, [84])) (by decide))) rfl (ixYes (o := ⟨17, 17, 1⟩) (by decide) q3) hc
 ·obtain rfl : v = 0 := by omega
  obtain rfl : b = 0 := by omega
  obtain ⟨a, rfl⟩ := one_of q1 q2
  obtain rfl := q8 (by decide)
  rw [tkA_one, BR]
  have ha := hl a (by simp) 4 r (by omega) (hr.mono (by decide))
  have ho : okF a = true := Bs hok a (by simp)
  exact un_pre (o := ⟨18, 0, 0⟩) (n := none) rfl (ix0 _ rfl) ha
 ·obtain rfl : v = 0 := by omega
  obtain rfl : b = 0 := by omega
  obtain ⟨a, rfl⟩ := one_of q1 q2
  obtain rfl := q8 (by decide)
  rw [tkA_one, BR]
  have ha := hl a (by simp) 4 r (by omega) (hr.mono (by decide))
  have ho : okF a = true := Bs hok a (by simp)
  exact un_pre (o := ⟨19, 0, 0⟩) (n := none) rfl (ix0 _ rfl) ha
theorem runsF : ∀ (m : Nat) (f : Fml), SizeOf.sizeOf f ≤ m → okF f = true → RunsF f
 | 0, f, hm, _ => by cases f; simp at hm
 | m + 1, .mk op nm v b args, hm, hok => by
  simp only [okF, Bool.and_eq_true] at hok
  have hl : ∀ a ∈ args, RunsF a := fun a ha => runsF m a (by have := List.sizeOf_lt_of_mem ha; simp at hm; omega) (Bs hok.2 a ha)
  intro n r hn hr
  simp only [tkF]
  by_cases hlv : (Bh op).level < n
  ·rw [decide_eq_true hlv]
   have h0 := body_run hok.1 hok.2 hl (StopL.nil _)
   have h1 := climb (min (Bh op).level 4) 0 (by omega) (by rw [Nat.zero_add]; exact h0) (StopL.nil 0)
   have h2 : RunN .unary _ _ := paren (x := tkn (3, [40])) (y := tkn (3, [41])) r rfl rfl h1
   have e : BF (wrapK true (tkA (Bh op).first (Bh op).next (sgK op nm v b) args)) ++ r = tkn (3, [40]) :: (BF (tkA (Bh op).first (Bh op).next (sgK op nm v b) args) ++ [] ++ tkn (3, [41]) :: r) := by simp [BF, wrapK]
   rw [e]
   refine climb (4 - n) n (by omega) ?_ hr
   rw [show n + (4 - n) = 4 by omega]
   exact h2
  ·rw [decide_eq_false hlv]
   have h0 := body_run hok.1 hok.2 hl (r := r) (hr.mono (by omega))
   refine climb (min (Bh op).level 4 - n) n (by omega) ?_ hr
   rw [show n + (min (Bh op).level 4 - n) = min (Bh op).level 4 by omega]
   exact h0
end Go.Proofs.YtfcgdbmoncnibaaGreatDoor
namespace Go.Proofs.YtfcgdbmoncnibaaGreatDoor
set_option linter.unusedVariables false
variable {mk : Prop} [MK mk]
def cnt (l : List Tok) : Nat := l.countP fun x => decide (x.text = [40])
end Go.Proofs.YtfcgdbmoncnibaaGreatDoor
namespace Go.Proofs.YtfcgdbmoncnibaaGreatDoor
set_option linter.unusedVariables false
def rqmK (r : Rqm) : List BT := (1, if r.kind = 1 then [97, 115, 115, 117, 109, 101] else [103, 117, 97, 114, 97, 110, 116, 101, 101]) :: (1, r.name) :: (3, [58]) :: tkF 0 r.formula
def sgnK (x : Sgn) : List BT := (1, if x.input then [105, 110, 112, 117, 116] else [111, 117, 116, 112, 117, 116]) :: (1, x.name) :: ((if x.size = 2 then [] else [(3, [58]), (2, CI x.size)]) ++ [(3, [59])])
def itG {α : Type} (o : List UInt8 → List α) (m : Rqm → List α) (c : List α) (l : List Rqm) (i : Nat) : List α := match l[i]? with
 | none => []
 | some r => (if i = 0 ∨ (l[i - 1]?).map (·.part) ≠ some r.part then o r.part else []) ++ (m r ++ (if i + 1 = l.length ∨ (l[i + 1]?).map (·.part) ≠ some r.part then c else []))
def itR {α : Type} (o : List UInt8 → List α) (m : Rqm → List α) (c : List α) (prev : Option (List UInt8)) : List Rqm → List α
 | [] => []
 | r :: l => (if prev ≠ some r.part then o r.part else []) ++ (m r ++ ((if l.head?.map (·.part) ≠ some r.part then c else []) ++ itR o m c (some r.part) l))
theorem itG_itR {α : Type} (o : List UInt8 → List α) (m : Rqm → List α) (c : List α) : ∀ (l2 l1 : List Rqm), (List.range' l1.length l2.length).flatMap (itG o m c (l1 ++ l2)) = itR o m c (l1.getLast?.map (·.part)) l2
 | [], l1 => by simp [itR]
 | r :: l2, l1 => by
  have ih := itG_itR o m c l2 (l1 ++ [r])
  rw [List.append_assoc, List.singleton_append] at ih
  simp only [List.length_append, List.length_singleton, List.getLast?_append, List.getLast?_singleton, Option.some_or, Option.map_some] at ih
  rw [List.length_cons, List.range'_succ, List.flatMap_cons, ih]
  have hr : (l1 ++ r :: l2)[l1.length]? = some r := by simp
  have h1 : (l1.length = 0 ∨ ((l1 ++ r :: l2)[l1.length - 1]?).map (·.part) ≠ some r.part) ↔ l1.getLast?.map (·.part) ≠ some r.part := by
   cases l1 with
   | nil => simp
   | cons a k =>
    have : ((a :: k) ++ r :: l2)[(a :: k).length - 1]? = (a :: k).getLast? := by
     rw [List.getElem?_append_left (by simp), List.getLast?_eq_getElem?]
    rw [this]
    simp
  have h2 : (l1.length + 1 = (l1 ++ r :: l2).length ∨ ((l1 ++ r :: l2)[l1.length + 1]?).map (·.part) ≠ some r.part) ↔ l2.head?.map (·.part) ≠ some r.part := by
   rw [List.getElem?_append_right (by omega), show l1.length + 1 - l1.length = 0 + 1 by omega, List.getElem?_cons_succ]
   cases l2 with
   | nil => simp
   | cons b k => simp
  have e : itG o m c (l1 ++ r :: l2) l1.length = (if l1.getLast?.map (·.part) ≠ some r.part then o r.part else []) ++ (m r ++ (if l2.head?.map (·.part) ≠ some r.part then c else [])) := by
   unfold itG
   rw [hr]
   simp only [h1, h2]
  rw [e]
  simp [itR]
theorem itG_all {α : Type} (o : List UInt8 → List α) (m : Rqm → List α) (c : List α) (l : List Rqm) : (List.range l.length).flatMap (itG o m c l) = itR o m c none l := by
 have := itG_itR o m c l []
 rw [List.range_eq_range']
 simpa using this
theorem itR_grp {α : Type} (o : List UInt8 → List α) (m : Rqm → List α) (c : List α) (p : List UInt8) : ∀ (l : List Rqm) (r : Rqm), r.part = p →
  itR o m c (some p) (r :: l) = ((r :: l).takeWhile fun x => decide (x.part = p)).flatMap m ++ (c ++ itR o m c none ((r :: l).dropWhile fun x => decide (x.part = p)))
 | [], r, hr => by simp [itR, hr]
 | x :: l, r, hr => by
  have e1 : (r :: x :: l).takeWhile (fun y => decide (y.part = p)) = r :: (x :: l).takeWhile (fun y => decide (y.part = p)) := by rw [List.takeWhile_cons]; simp [hr]
  have e2 : (r :: x :: l).dropWhile (fun y => decide (y.part = p)) = (x :: l).dropWhile (fun y => decide (y.part = p)) := by rw [List.dropWhile_cons]; simp [hr]
  rw [e1, e2, List.flatMap_cons]
  rw [itR, hr, if_neg (by simp)]
  by_cases hx : x.part = p
  ·rw [if_neg (by simp [hx]), List.nil_append, List.nil_append, itR_grp o m c p l x hx]
   simp
  ·have e3 : (x :: l).takeWhile (fun y => decide (y.part = p)) = [] := by rw [List.takeWhile_cons]; simp [hx]
   have e4 : (x :: l).dropWhile (fun y => decide (y.part = p)) = x :: l := by rw [List.dropWhile_cons]; simp [hx]
   have h1 : some p ≠ some x.part := fun h => hx (Option.some.inj h).symm
   have h2 : ((x :: l).head?.map (·.part)) ≠ some p := fun h => hx (Option.some.inj h)
   have e5 : itR o m c (some p) (x :: l) = itR o m c none (x :: l) := by
    simp only [itR]
    rw [if_pos h1, if_pos (show (none : Option (List UInt8)) ≠ some x.part from nofun)]
   rw [e3, e4, if_pos h2, e5]
   simp
def oT (p : List UInt8) : List UInt8 := [112, 97, 114, 116, 32] ++ (p ++ [32, 123, 10])
def mT (r : Rqm) : List UInt8 := [32, 32] ++ (reqT r ++ [59, 10])
def oK (p : List UInt8) : List BT := [(1, [112, 97, 114, 116]), (1, p), (3, [123])]
def mK (r : Rqm) : List BT := rqmK r ++ [(3, [59])]
def cK : List BT := [(3, [125])]
theorem rqsT_eq (l : List Rqm) : rqsT l = itR oT mT [125, 10] none l := by
 rw [← itG_all]
 unfold rqsT
 congr 1
 funext i
 unfold rqI itG
 cases l[i]? with
 | none => rfl
 | some r => simp [oT, mT]
def spcK (s : Spc) : List BT := s.sigs.flatMap sgnK ++ itR oK mK cK none s.reqs
def edtK (e : Edt) : List BT := if e.kind = 2 then [(1, [100, 114, 111, 112]), (1, e.req.name)] else (1, if e.kind = 1 then [97, 100, 100] else [114, 101, 112, 108, 97, 99, 101]) :: (1, e.req.part) :: rqmK e.req
theorem ReadL.word {y s : List UInt8} {bs : List BT} (h1 : 1 ≤ y.length) (h2 : y.length ≤ 12) (h3 : A4 (y.getD 0 0) = true) (h4 : y.all BD = true) (hr : ReadL s bs) (hs : folB s.head? = true) : ReadL (y ++ s) ((1, y) :: bs) := .tok h1 (word_step h1 h2 h3 h4 hs) hr
theorem ReadL.nl {s : List UInt8} {bs : List BT} (h : ReadL s bs) : ReadL (59 :: 10 :: s) ((3, [59]) :: bs) := ReadL.one (by simp) (ReadL.gap (.inr rfl) h)
theorem req_reads {r : Rqm} (hok : okR r = true) {s : List UInt8} {bs : List BT} (hr : ReadL s bs) (hs : Fol s) : ReadL (reqT r ++ s) (rqmK r ++ bs) := by
 simp only [okR, Bool.and_eq_true] at hok
 have hf := (readsF _ r.formula (Nat.le_refl _) hok.2 0 s bs hr hs).1
 have h1 : ReadL (r.name ++ ([58, 32] ++ (prF 0 r.formula ++ s))) ((1, r.name) :: (3, [58]) :: (tkF 0 r.formula ++ bs)) := ReadL.name hok.1.2 (ReadL.one (by simp) (ReadL.gap (.inl rfl) hf)) rfl
 by_cases hk : r.kind = 1
 ·have h2 := ReadL.word (y := [97, 115, 115, 117, 109, 101]) (by simp) (by simp) rfl rfl (ReadL.gap (c := 32) (.inl rfl) h1) rfl
  simpa [reqT, rqmK, hk] using h2
 ·have h2 := ReadL.word (y := [103, 117, 97, 114, 97, 110, 116, 101, 101]) (by simp) (by simp) rfl rfl (ReadL.gap (c := 32) (.inl rfl) h1) rfl
  simpa [reqT, rqmK, hk] using h2
theorem sgn_reads {x : Sgn} (hok : okS x = true) {s : List UInt8} {bs : List BT} (hr : ReadL s bs) : ReadL (sgnT x ++ s) (sgnK x ++ bs) := by
 simp only [okS, numB, Bool.and_eq_true, decide_eq_true_eq] at hok
 have h1 : ReadL (x.name ++ ((if x.size = 2 then [] else [58, 32] ++ CI x.size) ++ 59 :: 10 :: s)) ((1, x.name) :: ((if x.size = 2 then [] else [(3, [58]), (2, CI x.size)]) ++ (3, [59]) :: bs)) := by
  by_cases h2 : x.size = 2
  ·rw [if_pos h2, if_pos h2]
   exact ReadL.name hok.1 hr.nl rfl
  ·rw [if_neg h2, if_neg h2]
   have := ReadL.num hok.2.2 hr.nl rfl
   have h3 : ReadL (58 :: 32 :: (CI x.size ++ 59 :: 10 :: s)) ((3, [58]) :: (2, CI x.size) :: (3, [59]) :: bs) := ReadL.one (by simp) (ReadL.gap (.inl rfl) this)
   exact ReadL.name hok.1 h3 rfl
 cases hi : x.input with
 | true =>
  have h2 := ReadL.word (y := [105, 110, 112, 117, 116]) (by simp) (by simp) rfl rfl (ReadL.gap (c := 32) (.inl rfl) h1) rfl
  simpa [sgnT, sgnK, hi] using h2
 | false =>
  have h2 := ReadL.word (y := [111, 117, 116, 112, 117, 116]) (by simp) (by simp) rfl rfl (ReadL.gap (c := 32) (.inl rfl) h1) rfl
  simpa [sgnT, sgnK, hi] using h2
theorem sigs_read : ∀ {l : List Sgn} (_ : l.all okS = true) {s : List UInt8} {bs : List BT} (_ : ReadL s bs), ReadL (l.flatMap sgnT ++ s) (l.flatMap sgnK ++ bs)
 | [], _, s, bs, hr => hr
 | x :: l, h, s, bs, hr => by
  rw [List.all_cons, Bool.and_eq_true] at h
  rw [List.flatMap_cons, List.flatMap_cons, List.append_assoc, List.append_assoc]
  exact sgn_reads h.1 (sigs_read h.2 hr)
theorem itR_read : ∀ (l : List Rqm) (prev : Option (List UInt8)) (_ : l.all okRq = true) {s : List UInt8} {bs : List BT} (_ : ReadL s bs), ReadL (itR oT mT [125, 10] prev l ++ s) (itR oK mK cK prev l ++ bs)
 | [], _, _, s, bs, hr => hr
 | r :: l, prev, h, s, bs, hr => by
  rw [List.all_cons, Bool.and_eq_true] at h
  have hk := h.1
  simp only [okRq, Bool.and_eq_true] at hk
  have ih := itR_read l (some r.part) h.2 hr
  have h1 : ReadL ((if l.head?.map (·.part) ≠ some r.part then [125, 10] else []) ++ (itR oT mT [125, 10] (some r.part) l ++ s)) ((if l.head?.map (·.part) ≠ some r.part then cK else []) ++ (itR oK mK cK (some r.part) l ++ bs)) := by
   split
   ·exact ReadL.one (by simp) (ReadL.gap (.inr rfl) ih)
   ·exact ih
  have h2 := req_reads hk.2 h1.nl ⟨rfl, by simp⟩
  have h3 : ReadL ([32, 32] ++ (reqT r ++ 59 :: 10 :: _)) _ := ReadL.gap (.inl rfl) (ReadL.gap (.inl rfl) h2)
  by_cases hp : prev ≠ some r.part
  ·have h4 := ReadL.word (y := [112, 97, 114, 116]) (by simp) (by simp) rfl rfl (ReadL.gap (c := 32) (.inl rfl) (ReadL.name hk.1 (ReadL.gap (c := 32) (.inl rfl) (ReadL.one (c := 123) (by simp) (ReadL.gap (c := 10) (.inr rfl) h3))) rfl)) rfl
   simpa [itR, hp, oT, mT, oK, mK] using h4
  ·simp only [ne_eq, Decidable.not_not] at hp
   simpa [itR, hp, mT, mK] using h3
theorem spc_reads {x : Spc} (hok : CL x = true) {s : List UInt8} {bs : List BT} (hr : ReadL s bs) : ReadL (spcT x ++ s) (spcK x ++ bs) := by
 simp only [CL, Bool.and_eq_true] at hok
 have h1 := itR_read x.reqs none hok.2 hr
 have := sigs_read hok.1 h1
 rw [← rqsT_eq] at this
 simpa [spcT, spcK] using this
end Go.Proofs.YtfcgdbmoncnibaaGreatDoor
namespace Go.Proofs.YtfcgdbmoncnibaaGreatDoor
set_option linter.unusedVariables false
def unp0 (r : Rqm) : Rqm := ⟨[], r.name, r.kind, r.formula⟩
theorem req_run {r : Rqm} (hok : okR r = true) {rest : List Tok} (hr : StopL 0 rest) : RunN .req (BF (rqmK r) ++ rest) (.ok (unp0 r, rest)) := by
 simp only [okR, Bool.and_eq_true, Bool.or_eq_true, decide_eq_true_eq] at hok
 have hf : RunN .formula (BF (tkF 0 r.formula) ++ rest) (.ok (r.formula, rest)) := runsF _ r.formula (Nat.le_refl _) hok.2 0 rest (by omega) hr
 have ht : ∀ k : Int, Run (nameG.bind fun s => (B7 [58]).bind fun _ => .call .formula fun f => .ret (⟨[], s, k, f⟩ : Rqm)) (tkn (1, r.name) :: tkn (3, [58]) :: (BF (tkF 0 r.formula) ++ rest)) (.ok (⟨[], r.name, k, r.formula⟩, rest)) := fun k => by
  refine run_name (x := tkn (1, r.name)) rfl hok.1.2 ?_
  refine CS (x := tkn (3, [58])) rfl ?_
  exact Run.call hf (Run.ret _ _)
 by_cases hk : r.kind = 1
 ·have e : BF (rqmK r) ++ rest = tkn (1, [97, 115, 115, 117, 109, 101]) :: tkn (1, r.name) :: tkn (3, [58]) :: (BF (tkF 0 r.formula) ++ rest) := by simp [rqmK, BF, hk]
  rw [e]
  have e2 : unp0 r = ⟨[], r.name, 1, r.formula⟩ := by simp [unp0, hk]
  rw [e2]
  exact run_yes (x := tkn (1, [97, 115, 115, 117, 109, 101])) rfl (Run.bind (Run.ret _ _) (ht 1))
 ·have hk2 : r.kind = 2 := by rcases hok.1.1 with h | h; exact absurd h hk; exact h
  have e : BF (rqmK r) ++ rest = tkn (1, [103, 117, 97, 114, 97, 110, 116, 101, 101]) :: tkn (1, r.name) :: tkn (3, [58]) :: (BF (tkF 0 r.formula) ++ rest) := by simp [rqmK, BF, hk]
  rw [e]
  have e2 : unp0 r = ⟨[], r.name, 2, r.formula⟩ := by simp [unp0, hk2]
  rw [e2]
  refine C7 (l := tkn (1, [103, 117, 97, 114, 97, 110, 116, 101, 101]) :: _) rfl (Run.bind (CS (x := tkn (1, [103, 117, 97, 114, 97, 110, 116, 101, 101])) rfl (Run.ret _ _)) (ht 2))
theorem line_run {r : Rqm} (hok : okR r = true) (rest : List Tok) : RunN .line (BF (mK r) ++ rest) (.ok (unp0 r, rest)) := by
 have e : BF (mK r) ++ rest = BF (rqmK r) ++ (tkn (3, [59]) :: rest) := by simp [mK, BF]
 rw [e]
 exact Run.call (req_run hok (StopL.cons rfl)) (CS (x := tkn (3, [59])) rfl (Run.ret _ _))
theorem rqm_head (r : Rqm) (rest : List Tok) : (Aw [97, 115, 115, 117, 109, 101] ((BF (mK r) ++ rest).head?.map bare) || Aw [103, 117, 97, 114, 97, 110, 116, 101, 101] ((BF (mK r) ++ rest).head?.map bare)) = true := by
 by_cases hk : r.kind = 1
 ·simp [mK, rqmK, BF, hk, tkn, bare, Aw]
 ·simp [mK, rqmK, BF, hk, tkn, bare, Aw]
theorem lines_run : ∀ {g : List Rqm} (_ : ∀ r ∈ g, okR r = true) (rest : List Tok), RunN .lines (BF (g.flatMap mK) ++ (tkn (3, [125]) :: rest)) (.ok (g.map unp0, tkn (3, [125]) :: rest))
 | [], _, rest => Run.bind (Cq _ _ _) (Run.ret _ _)
 | r :: g, h, rest => by
  have e : BF ((r :: g).flatMap mK) ++ (tkn (3, [125]) :: rest) = BF (mK r) ++ (BF (g.flatMap mK) ++ (tkn (3, [125]) :: rest)) := by simp [BF]
  rw [e]
  have h1 := Cq [97, 115, 115, 117, 109, 101] [103, 117, 97, 114, 97, 110, 116, 101, 101] (BF (mK r) ++ (BF (g.flatMap mK) ++ (tkn (3, [125]) :: rest)))
  rw [rqm_head] at h1
  refine Run.bind h1 ?_
  exact Run.call (line_run (h r (by simp)) _) (Run.call (lines_run (fun x hx => h x (by simp [hx])) rest) (Run.ret _ _))
theorem part_run {g : List Rqm} {p : List UInt8} (hp : BV p = true) (h : ∀ r ∈ g, okR r = true ∧ r.part = p) (rest : List Tok) : RunN .part (BF (oK p ++ (g.flatMap mK ++ cK)) ++ rest) (.ok (g, rest)) := by
 have e : BF (oK p ++ (g.flatMap mK ++ cK)) ++ rest = tkn (1, [112, 97, 114, 116]) :: tkn (1, p) :: tkn (3, [123]) :: (BF (g.flatMap mK) ++ (tkn (3, [125]) :: rest)) := by simp [oK, cK, BF]
 rw [e]
 refine CS (x := tkn (1, [112, 97, 114, 116])) rfl (run_name (x := tkn (1, p)) rfl hp (CS (x := tkn (3, [123])) rfl (Run.call (lines_run (fun r hr => (h r hr).1) rest) (CS (x := tkn (3, [125])) rfl ?_))))
 have e2 : (g.map unp0).map (fun r => (⟨p, r.name, r.kind, r.formula⟩ : Rqm)) = g := by
  rw [List.map_map]
  refine (List.map_congr_left fun r hr => ?_).trans (List.map_id _)
  have := (h r hr).2
  cases r
  simp at this
  simp [unp0, this]
 show Run (.ret ((g.map unp0).map (fun r => (⟨p, r.name, r.kind, r.formula⟩ : Rqm)))) rest _
 rw [e2]
 exact Run.ret _ _
theorem parts_run : ∀ (n : Nat) (l : List Rqm) (_ : l.length ≤ n) (_ : l.all okRq = true) {rest r' : List Tok} {ps : List (List Rqm)} (_ : RunN .parts rest (.ok (ps, r'))), ∃ qs, RunN .parts (BF (itR oK mK cK none l) ++ rest) (.ok (qs, r')) ∧ qs.flatten = l ++ ps.flatten
 | n, [], _, _, rest, r', ps, hr => ⟨ps, hr, rfl⟩
 | 0, r :: l, hn, _, _, _, _, _ => by simp at hn
 | n + 1, r :: l, hn, hok, rest, r', ps, hr => by
  have hg : ∀ x ∈ (r :: l).takeWhile (fun x => decide (x.part = r.part)), okR x = true ∧ x.part = r.part := fun x hx => by
   have h1 := List.all_eq_true.1 hok x ((List.takeWhile_sublist _).subset hx)
   simp only [okRq, Bool.and_eq_true] at h1
   have h2 := List.all_eq_true.1 (List.all_takeWhile (p := fun x : Rqm => decide (x.part = r.part)) (l := r :: l)) x hx
   exact ⟨h1.2, by simpa using h2⟩
  have hpn : BV r.part = true := by
   have h1 := List.all_eq_true.1 hok r (by simp)
   simp only [okRq, Bool.and_eq_true] at h1
   exact h1.1
  have e1 : itR oK mK cK none (r :: l) = oK r.part ++ itR oK mK cK (some r.part) (r :: l) := by
   simp only [itR]
   rw [if_pos (show (none : Option (List UInt8)) ≠ some r.part from nofun), if_neg (show ¬ (some r.part ≠ some r.part) from fun h => h rfl)]
   rfl
  have hdl : ((r :: l).dropWhile (fun x => decide (x.part = r.part))).length ≤ n := by
   rw [List.dropWhile_cons, if_pos (by simp)]
   have := (List.dropWhile_sublist (fun x : Rqm => decide (x.part = r.part)) (l := l)).length_le
   simp at hn; omega
  have hdo : ((r :: l).dropWhile (fun x => decide (x.part = r.part))).all okRq = true := by
   rw [List.all_eq_true] at hok ⊢
   exact fun x hx => hok x ((List.dropWhile_sublist _).subset hx)
  obtain ⟨qs, h1, h2⟩ := parts_run n _ hdl hdo hr
  refine ⟨(r :: l).takeWhile (fun x => decide (x.part = r.part)) :: qs, ?_, ?_⟩
  ·rw [e1, itR_grp _ _ _ r.part l r rfl]
   have e3 : BF (oK r.part ++ (((r :: l).takeWhile fun x => decide (x.part = r.part)).flatMap mK ++ (cK ++ itR oK mK cK none ((r :: l).dropWhile fun x => decide (x.part = r.part))))) ++ rest =
     BF (oK r.part ++ (((r :: l).takeWhile fun x => decide (x.part = r.part)).flatMap mK ++ cK)) ++ (BF (itR oK mK cK none ((r :: l).dropWhile fun x => decide (x.part = r.part))) ++ rest) := by simp [BF]
   rw [e3]
   refine Run.bind (a := true) (l' := BF (oK r.part ++ (((r :: l).takeWhile fun x => decide (x.part = r.part)).flatMap mK ++ cK)) ++ (BF (itR oK mK cK none ((r :: l).dropWhile fun x => decide (x.part = r.part))) ++ rest)) (Cq _ _ _) ?_
   exact Run.call (part_run hpn hg _) (Run.call h1 (Run.ret _ _))
  ·rw [List.flatten_cons, h2, ← List.append_assoc, List.takeWhile_append_dropWhile]
theorem parts_end : RunN .parts [] (.ok ([], [])) := Run.bind (Cq _ _ _) (Run.ret _ _)
theorem signal_run {x : Sgn} (hok : okS x = true) (rest : List Tok) : RunN .signal (BF (sgnK x) ++ rest) (.ok (x, rest)) := by
 simp only [okS, numB, Bool.and_eq_true, decide_eq_true_eq] at hok
 have ht : ∀ i : Bool, i = x.input → Run (nameG.bind fun s => ((BU [58]).bind fun b => if b then numberG else .ret 2).bind fun n => (B7 [59]).bind fun _ => .ret (⟨s, i, n⟩ : Sgn))
   (tkn (1, x.name) :: (BF (if x.size = 2 then [] else [(3, [58]), (2, CI x.size)]) ++ (tkn (3, [59]) :: rest))) (.ok (x, rest)) := fun i hi => by
  subst hi
  refine run_name (x := tkn (1, x.name)) rfl hok.1 ?_
  by_cases h2 : x.size = 2
  ·rw [if_pos h2]
   refine Run.bind (a := 2) (l' := tkn (3, [59]) :: rest) (C7 (l := tkn (3, [59]) :: rest) rfl (Run.ret _ _)) (CS (x := tkn (3, [59])) rfl ?_)
   have e : (⟨x.name, x.input, 2⟩ : Sgn) = x := by cases x; simp at h2; simp [h2]
   show Run (.ret (⟨x.name, x.input, 2⟩ : Sgn)) rest _
   rw [e]
   exact Run.ret _ _
  ·rw [if_neg h2]
   have e : Da (tkn (2, CI x.size)).text = x.size := numOf_numT hok.2.1
   have hn : Run numberG (tkn (2, CI x.size) :: tkn (3, [59]) :: rest) (.ok (x.size, tkn (3, [59]) :: rest)) := by
    have := run_number (q := fun n => .ret n) (x := tkn (2, CI x.size)) (l := tkn (3, [59]) :: rest) rfl (Run.ret _ _)
    rw [e] at this
    have h3 : numberG.bind (fun n => G.ret n) = numberG := by
     unfold numberG
     simp only [G.bind]
     congr 1
     funext o
     cases o with
     | none => rfl
     | some y => simp only; split <;> rfl
    rw [h3] at this
    exact this
   refine Run.bind (a := x.size) (l' := tkn (3, [59]) :: rest) (run_yes (x := tkn (3, [58])) rfl hn) (CS (x := tkn (3, [59])) rfl ?_)
   exact Run.ret _ _
 cases hi : x.input with
 | true =>
  have e : BF (sgnK x) ++ rest = tkn (1, [105, 110, 112, 117, 116]) :: tkn (1, x.name) :: (BF (if x.size = 2 then [] else [(3, [58]), (2, CI x.size)]) ++ (tkn (3, [59]) :: rest)) := by simp [sgnK, BF, hi]
  rw [e]
  exact run_yes (x := tkn (1, [105, 110, 112, 117, 116])) rfl (Run.bind (Run.ret _ _) (ht true hi.symm))
 | false =>
  have e : BF (sgnK x) ++ rest = tkn (1, [111, 117, 116, 112, 117, 116]) :: tkn (1, x.name) :: (BF (if x.size = 2 then [] else [(3, [58]), (2, CI x.size)]) ++ (tkn (3, [59]) :: rest)) := by simp [sgnK, BF, hi]
  rw [e]
  exact C7 (l := tkn (1, [111, 117, 116, 112, 117, 116]) :: _) rfl (Run.bind (l' := tkn (1, x.name) :: _) (run_expect_t (t := [111, 117, 116, 112, 117, 116]) (ts := tkn (1, [111, 117, 116, 112, 117, 116]) :: tkn (1, x.name) :: _) rfl) (ht false hi.symm))
theorem sgn_head (x : Sgn) (rest : List Tok) : (Aw [105, 110, 112, 117, 116] ((BF (sgnK x) ++ rest).head?.map bare) || Aw [111, 117, 116, 112, 117, 116] ((BF (sgnK x) ++ rest).head?.map bare)) = true := by
 cases hi : x.input with
 | true => simp [sgnK, BF, hi, tkn, bare, Aw]
 | false => simp [sgnK, BF, hi, tkn, bare, Aw]
theorem sigs_run : ∀ {l : List Sgn} (_ : l.all okS = true) {rest : List Tok} (_ : (Aw [105, 110, 112, 117, 116] (rest.head?.map bare) || Aw [111, 117, 116, 112, 117, 116] (rest.head?.map bare)) = false), RunN .sigs (BF (l.flatMap sgnK) ++ rest) (.ok (l, rest))
 | [], _, rest, hr => by
  have h1 := Cq [105, 110, 112, 117, 116] [111, 117, 116, 112, 117, 116] rest
  rw [hr] at h1
  exact Run.bind h1 (Run.ret _ _)
 | x :: l, h, rest, hr => by
  rw [List.all_cons, Bool.and_eq_true] at h
  have e : BF ((x :: l).flatMap sgnK) ++ rest = BF (sgnK x) ++ (BF (l.flatMap sgnK) ++ rest) := by simp [BF]
  rw [e]
  have h1 := Cq [105, 110, 112, 117, 116] [111, 117, 116, 112, 117, 116] (BF (sgnK x) ++ (BF (l.flatMap sgnK) ++ rest))
  rw [sgn_head] at h1
  exact Run.bind h1 (Run.call (signal_run h.1 _) (Run.call (sigs_run h.2 hr) (Run.ret _ _)))
theorem itR_head (l : List Rqm) (rest : List Tok) (hr : (Aw [105, 110, 112, 117, 116] (rest.head?.map bare) || Aw [111, 117, 116, 112, 117, 116] (rest.head?.map bare)) = false) : (Aw [105, 110, 112, 117, 116] ((BF (itR oK mK cK none l) ++ rest).head?.map bare) || Aw [111, 117, 116, 112, 117, 116] ((BF (itR oK mK cK none l) ++ rest).head?.map bare)) = false := by
 cases l with
 | nil => exact hr
 | cons r l =>
  simp only [itR]
  rw [if_pos (show (none : Option (List UInt8)) ≠ some r.part from nofun)]
  simp [oK, BF, tkn, bare, Aw]
theorem spc_run2 {x : Spc} (hx : CL x = true) {l : List Rqm} (hl : l.all okRq = true) : RunN .spec (BF (spcK x) ++ BF (itR oK mK cK none l)) (.ok (⟨x.sigs, x.reqs ++ l⟩, [])) := by
 simp only [CL, Bool.and_eq_true] at hx
 obtain ⟨q1, h1, e1⟩ := parts_run _ l (Nat.le_refl _) hl parts_end
 rw [List.append_nil] at h1
 obtain ⟨q2, h2, e2⟩ := parts_run _ x.reqs (Nat.le_refl _) hx.2 h1
 rw [e1, List.flatten_nil, List.append_nil] at e2
 have e : BF (spcK x) ++ BF (itR oK mK cK none l) = BF (x.sigs.flatMap sgnK) ++ (BF (itR oK mK cK none x.reqs) ++ BF (itR oK mK cK none l)) := by simp [spcK, BF]
 rw [e]
 have hh : (Aw [105, 110, 112, 117, 116] ((BF (itR oK mK cK none l)).head?.map bare) || Aw [111, 117, 116, 112, 117, 116] ((BF (itR oK mK cK none l)).head?.map bare)) = false := by
  have := itR_head l [] rfl
  rwa [List.append_nil] at this
 refine Run.call (sigs_run hx.1 (itR_head x.reqs _ hh)) (Run.call h2 ?_)
 rw [e2]
 exact Run.ret _ _
end Go.Proofs.YtfcgdbmoncnibaaGreatDoor
namespace Go.Proofs.YtfcgdbmoncnibaaGreatDoor
set_option linter.unusedVariables false
end Go.Proofs.YtfcgdbmoncnibaaGreatDoor
