/- The nodes of a formula, one after the other: the iterator walked. The nodes of a formula: the loop around, and the number of nodes. The printer's laws: the example. The parser's plain law: where formulas stop, formulas in parentheses, operators between and ahead. The printer's plain law: texts that read as tokens, from the right, without limits. The printer's plain law: the text of a formula and its tokens. The printer's plain law: the text of a formula reads as its tokens. Rules for maps from integers to values: made, filled, looked up. A rule for a statement whose order is drawn: an invariant over what has been done. Conditions: none. -/
import Derived.Test.YtfcgdbmoncnibaaGreatDoorZF7
import Derived.Maps.RangeRun

namespace Go.Proofs.YtfcgdbmoncnibaaGreatDoor
open Go.RowKit
set_option linter.unusedVariables false
variable {mk : Prop} [MK mk]
abbrev Nd := Fml × Bool
mutual
def preF (i : Bool) : Fml → List Nd
 | .mk op nm v b args => (.mk op nm v b args, i) :: C8 (i || (C1 op).past) args
def C8 (i : Bool) : List Fml → List Nd
 | [] => []
 | f :: l => preF i f ++ C8 i l
end
mutual
def dpF : Fml → Nat
 | .mk _ _ _ _ args => dpL args + 1
def dpL : List Fml → Nat
 | [] => 0
 | f :: l => max (dpF f) (dpL l)
end
theorem preF_eq (i : Bool) (f : Fml) : preF i f = (f, i) :: C8 (i || (C1 f.op).past) f.args := by cases f; simp [preF, Fml.args, Fml.op]
theorem dpF_eq (f : Fml) : dpF f = dpL f.args + 1 := by cases f; simp [dpF, Fml.args]
theorem dpL_mem : ∀ {l : List Fml} {a : Fml}, a ∈ l → dpF a ≤ dpL l
 | c :: l, a, h => by
  simp only [dpL]
  rcases List.mem_cons.1 h with rfl | h
  ·omega
  ·have := dpL_mem h; omega
theorem preL_app (i : Bool) : ∀ l m : List Fml, C8 i (l ++ m) = C8 i l ++ C8 i m
 | [], m => rfl
 | f :: l, m => by simp [C8, preL_app i l m]
theorem preL_take (i : Bool) {l : List Fml} {k : Nat} {x : Fml} (h : l[k]? = some x) : C8 i (l.take (k + 1)) = C8 i (l.take k) ++ preF i x := by
 rw [List.take_add_one, h, Option.toList_some, preL_app]; simp [C8]
structure NodesR (yv : Value) (X : List Nat) (B : Nat) (P : List Nd) (J D : List Nd → World → Prop) : Prop where
 fn : ∃ y, yv = .func (.yield y) #[] #[]
 glob : ∀ x ∈ X, 10 ≤ x
 keep : ∀ {L : List Nd} {W W' : World} {Y : List Nat}, J L W → Keep Y W W' → (∀ y ∈ Y, B ≤ y) → J L W'
 step : ∀ {L : List Nd} {W : World} {b o : Nat} {f : Fml} {i : Bool}, J L W → PF (fun b => b ∉ X ∧ b < B) W b o f → L ++ [(f, i)] <+: P → YldP Tryz.prog yv [.pointer (some ⟨b, o, none⟩), .bool i] W (fun v W' => Keep X W W' ∧ ((v = .bool true ∧ J (L ++ [(f, i)]) W') ∨ (v = .bool false ∧ D (L ++ [(f, i)]) W'))) fun _ _ => False
theorem PF.opc {ok : Nat → Prop} {w : World} {b o : Nat} {f : Fml} (h : PF ok w b o f) : w.cell? ⟨b, o + 0, none⟩ = some (.int .i64 f.op) := by
 obtain ⟨_, a, c, L, hc, _⟩ := h.form
 exact hc 0 _ rfl
theorem PF.arg {ok : Nat → Prop} {w : World} {b o : Nat} {f : Fml} (h : PF ok w b o f) : ∃ a c, f.args.length ≤ 9223372036854775807 ∧ w.cell? ⟨b, o + 4, none⟩ = some (.slice a f.args.length c) ∧ ∀ (k : Nat) (x : Fml), f.args[k]? = some x → ∃ b' o', a = some ⟨b', o', none⟩ ∧ PF ok w b' (o' + k * 5) x := by
 obtain ⟨_, a, c, L, hc, hS, h1, h2, h3⟩ := h.form
 refine ⟨a, c, by obtain ⟨_, _, hv, g1, g2, _⟩ := id hS; cases hv; omega, hc 4 _ rfl, fun k x hx => ?_⟩
 have hlt : k < f.args.length := (List.getElem?_eq_some_iff.1 hx).1
 obtain ⟨d, hd⟩ : ∃ d, L[k]? = some d := ⟨_, List.getElem?_eq_getElem (by omega)⟩
 obtain ⟨b', o', rfl, hb, hcx⟩ := hS.fml h2 hd hlt
 exact ⟨b', o', rfl, hb, d, h2 d (List.mem_of_getElem? hd), hcx, h3 k d x hd hx⟩
theorem NodesR.ext {yv : Value} {X : List Nat} {B : Nat} {P : List Nd} {J D : List Nd → World → Prop} (H : NodesR yv X B P J D) {L : List Nd} {W W' : World} (h : J L W) (k : Ext W W') : J L W' := H.keep h k fun _ h => by cases h
theorem visit_ok {yv : Value} {X : List Nat} {B : Nat} {P : List Nd} {J D : List Nd → World → Prop} (H : NodesR yv X B P J D) (c3 c4 c5 : Nat) (h4 : c4 ∉ X) (h5 : c5 ∉ X) : ∀ (n : Nat) (w : World) (b o : Nat) (f : Fml) (i : Bool) (d : Nat) (L : List Nd), dpF f ≤ n → d + n ≤ 5000 → PF (fun b => b ∉ X ∧ b < B) w b o f → GF w →
  Blk w c4 169 [yv] → Blk w c5 173 [.func (.func 117) #[] #[pt c3, pt c4, pt c5]] → J L w → L ++ preF i f <+: P →
  Fn Tryz.prog 117 [.pointer (some ⟨b, o, none⟩), .bool i, .int .i64 d, pt c3, pt c4, pt c5] w fun v w' => Keep X w w' ∧ ((v = .bool true ∧ J (L ++ preF i f) w') ∨ (v = .bool false ∧ ∃ M, M <+: preF i f ∧ M ≠ [] ∧ D (L ++ M) w')) := by
 intro n
 induction n with
 | zero => intro w b o f i d L hn; rw [dpF_eq] at hn; omega
 | succ n ih =>
 intro w b o f i d L hn hd hf hG b4 b5 hJ hP
 rw [dpF_eq] at hn
 have hdl : d < 5000 := by omega
 obtain ⟨y, rfl⟩ := H.fn
 refine Ad Tryz.func117 rfl Tryz.ntmps117 (Nat.le_of_ble_eq_true rfl) (by kernel_rfl) ?_
 repeat refine nx rfl ?_
 refine AA (AB (AC rfl ?_))
 repeat refine nx rfl ?_
 refine AA (AH rfl (AL rfl rfl (by omega) ?_))
 repeat first | refine nx rfl ?_ | refine nf rfl ?_
 (refine AA (AG rfl (Blk.cell (by assumption) (by rfl)) ?_) <;> refine AK rfl (AC rfl ?_))
 refine W_yield rfl rfl (H.step hJ hf (((List.prefix_append_right_inj L).2 (by rw [preF_eq]; exact ⟨_, rfl⟩)).trans hP)) ?_
 rintro _ w1 ⟨k1, hr⟩
 rcases hr with ⟨rfl, hJ1⟩ | ⟨rfl, hD⟩
 case inr =>
  refine BL rfl ?_
  repeat refine nx rfl ?_
  refine AA (AB (AC rfl ?_))
  repeat refine nx rfl ?_
  exact AP rfl ⟨k1, .inr ⟨rfl, [(f, i)], by rw [preF_eq]; exact ⟨_, rfl⟩, by simp, hD⟩⟩
 have hf1 := hf.keep k1 (fun _ h => h.1)
 have hG1 := hG.keep k1 H.glob
 have b41 := b4.keep k1 h4
 have b51 := b5.keep k1 h5
 refine BL rfl ?_
 repeat first | refine nx rfl ?_ | refine nf rfl ?_
 have hop := hf1.opc
 refine AA (AK rfl (AF rfl (AD rfl (AG rfl (by assumption) ?_))))
 refine AS (formOf_ok w1 f.op hG1) rfl ?_
 rintro _ w2 ⟨rfl, k2⟩
 refine Bn rfl (Af rfl rfl (Af rfl rfl ?_))
 refine BE (cs := B9 (C1 f.op)) rfl rfl (by rfl) (formC_one _) (fun w3 n3 => ?_)
 refine AB (AC rfl ?_)
 repeat refine nx rfl ?_
 have k3 := k2.trans n3.keep
 have b3 := n3.blk
 have hf3 := hf1.keep k3 (fun _ _ => by simp)
 have hG3 := hG1.ext k3
 have b43 := b41.keep k3 (by simp)
 have b53 := b51.keep k3 (by simp)
 have k13 : Keep X w w3 := k1.ext k3
 have hJ3 := H.ext hJ1 k3
 have hpast : w3.cell? ⟨w2.heap.size, 0 + 5, none⟩ = some (.bool (C1 f.op).past) := b3.cell rfl
 obtain ⟨a3, cc3, hal, hargs3, _⟩ := hf3.arg
 cases i with
 | true =>
  refine AA (AC rfl (AC rfl (AJ rfl (AJ rfl (AO rfl (AC rfl (AB (AC rfl ?_))))))))
  repeat refine nx rfl ?_
  (refine AA (AK rfl (AF rfl (AD rfl (AG rfl (by assumption) ?_)))) <;> refine As rfl (AH rfl ?_))
  repeat refine nx rfl ?_
  refine BY (α := Nat) (fun k => [(0, .pointer (some ⟨b, o, none⟩)), (1, .bool true), (2, .int .i64 (d : Int)), (5, pt c5), (43, .int .i64 (f.args.length : Int)), (44, .int .i64 (k : Int))]) (fun k W => k ≤ f.args.length ∧ Keep X w W ∧ Ext w3 w3 ∧ J (L ++ ((f, true) :: C8 true (f.args.take k))) W ∧ GF W ∧ PF (fun b => b ∉ X ∧ b < B) W b o f ∧ Blk W c4 169 [.func (.yield y) #[] #[]] ∧ Blk W c5 173 [.func (.func 117) #[] #[pt c3, pt c4, pt c5]]) (fun k => f.args.length - k) 0 ⟨rfl, rfl, rfl, rfl, rfl, rfl, trivial⟩ ⟨by omega, k13, Ext.refl _, by simpa [C8] using hJ3, hG3, hf3, b43, b53⟩ ?_
  rintro k W fr ⟨hk, kW, _, hJW, hGW, hfW, b4W, b5W⟩
  repeat refine nx rfl ?_
  by_cases hlt : k < f.args.length
  ·refine AA (BM rfl rfl (by omega) ?_)
   repeat refine nx rfl ?_
   refine AA (AH rfl (AB (AH rfl ?_)))
   repeat refine nx rfl ?_
   obtain ⟨x, hx⟩ : ∃ x, f.args[k]? = some x := ⟨_, List.getElem?_eq_getElem hlt⟩
   obtain ⟨aa, cc, _, hargs, hel⟩ := hfW.arg
   obtain ⟨b', o', rfl, hfx⟩ := hel k x hx
   have hfa : f.args = f.args.take k ++ x :: f.args.drop (k + 1) := by
    have := List.take_append_drop k f.args
    rw [List.drop_eq_getElem_cons hlt, (List.getElem?_eq_some_iff.1 hx).2] at this
    exact this.symm
   have hpe : C8 true f.args = C8 true (f.args.take k) ++ (preF true x ++ C8 true (f.args.drop (k + 1))) := by
    conv => lhs; rw [hfa, preL_app]
    simp [C8]
   have hPx : (L ++ ((f, true) :: C8 true (f.args.take k))) ++ preF true x <+: P := by
    refine List.IsPrefix.trans ?_ hP
    rw [preF_eq true f, List.append_assoc, List.prefix_append_right_inj]
    show _ <+: (f, true) :: C8 true f.args
    rw [hpe, List.cons_append, List.prefix_cons_inj, List.prefix_append_right_inj]
    exact List.prefix_append _ _
   have hdx : dpF x ≤ n := by have := dpL_mem (List.mem_of_getElem? hx); omega
   refine A7 (.read 0 (.read 1 (.read 2 (.read 3 (.read 4 (.read 5 (.read 6 (.read 7 (.read 8 (.read 9 (.alt 10 (.read 11 .done) .stop))))))))))) BA (by kernel_rfl) (fun wd kd ed => ⟨Keep X wd, ?_, ?_⟩)
   ·exact Keep.refl _ _
   have ca : ∀ V, Keep X wd V → V.cell? ⟨c5, 0, none⟩ = some (.func (.func 117) #[] #[pt c3, pt c4, pt c5]) := fun V e => ((b5W.keep kd (by simp)).keep e h5).cell rfl
   have cb : ∀ V, Keep X wd V → V.cell? ⟨b, o + 4, none⟩ = some (.slice (some ⟨b', o', none⟩) f.args.length cc) := fun V e => e.cell (kd.cell hargs (by simp)) hfW.1.1
   (refine D_R rfl rfl (fun W hW => AG rfl (ca W hW) Z3) (D_R rfl rfl (fun W hW => AK rfl Z3) (D_R rfl rfl (fun W hW => AF rfl Z3) (D_R rfl rfl (fun W hW => AD rfl Z3) (D_R rfl rfl (fun W hW => AG rfl (cb W hW) Z3) (D_R rfl rfl (fun W hW => AH rfl Z3) (D_R rfl rfl (fun W hW => CH rfl rfl rfl (by omega) Z3) (D_R rfl rfl (fun W hW => AC rfl Z3) (D_R rfl rfl (fun W hW => AH rfl Z3) ?_)))))))) <;> (apply D_R rfl rfl; (intro W hW; refine BR rfl rfl (by first | exact Al (by omega) (by omega) | exact At (by omega) (by omega) | exact Am (by omega) (by omega)) ?_; exact Z3)))
   refine D_E rfl ?_
   refine Bz (v1 := []) (v2 := [pt c3, pt c4, pt c5]) (vs := [.pointer (some ⟨b', o' + k * 5, none⟩), .bool true, .int .i64 ((d : Int) + 1)]) rfl (ih wd b' (o' + k * 5) x true (d + 1) _ hdx (by omega) (hfx.keep kd (fun _ _ => by simp)) (hGW.ext kd) (b4W.keep kd (by simp)) (b5W.keep kd (by simp)) (H.ext hJW kd) hPx) rfl ?_
   rintro _ w4 ⟨k4, hr⟩
   refine AI ⟨Keep X wd, fun _ e => e, k4, ?_⟩
   have kW4 : Keep X w w4 := (kW.ext kd).trans k4 (fun _ hx _ => hx)
   rcases hr with ⟨rfl, hJ4⟩ | ⟨rfl, M, hM1, hM2, hD⟩
   ·refine D_R rfl rfl (fun W hW => BL rfl Z3) (Ay ?_)
    repeat first | refine nx rfl ?_ | refine nf rfl ?_
    (refine AA (BR rfl rfl (by first | exact Al (by omega) (by omega) | exact At (by omega) (by omega) | exact Am (by omega) (by omega)) ?_) <;> refine AH rfl ?_)
    repeat refine nx rfl ?_
    refine ⟨k + 1, ⟨rfl, ⟨rfl, rfl, rfl, rfl, rfl, ?_, trivial⟩, ⟨by omega, kW4, Ext.refl _, ?_, (hGW.ext kd).keep k4 H.glob, (hfW.keep kd (fun _ _ => by simp)).keep k4 (fun _ h => h.1), (b4W.keep kd (by simp)).keep k4 h4, (b5W.keep kd (by simp)).keep k4 h5⟩⟩, by omega⟩
    ·show Value.int .i64 ((k : Int) + 1) = _
     rw [Int.natCast_add]; rfl
    ·rw [preL_take _ hx]; simpa using hJ4
   ·refine D_R rfl rfl (fun W hW => BL rfl Z3) (Ay ?_)
    repeat refine nx rfl ?_
    refine AA (AB (AC rfl ?_))
    repeat refine nx rfl ?_
    refine AP rfl ⟨kW4, .inr ⟨rfl, (f, true) :: C8 true (f.args.take k) ++ M, ?_, by simp, by simpa using hD⟩⟩
    rw [preF_eq]
    show _ <+: (f, true) :: C8 true f.args
    rw [hpe, List.cons_append, List.prefix_cons_inj, List.prefix_append_right_inj]
    exact hM1.trans (List.prefix_append _ _)
  ·refine AA (BN rfl rfl (by omega) ?_)
   repeat first | refine nx rfl ?_ | refine nf rfl ?_
   refine AA (AB (AC rfl ?_))
   repeat refine nx rfl ?_
   rw [List.take_of_length_le (by omega)] at hJW
   refine AP rfl ⟨kW, .inl ⟨rfl, by rw [preF_eq]; exact hJW⟩⟩
 | false =>
  (refine AA (AC rfl (AC rfl (AE rfl (AD rfl (AE rfl (AG rfl (Blk.cell (by assumption) (by rfl)) ?_)))))) <;> refine AQ rfl (AC rfl (AB (AC rfl ?_))))
  repeat refine nx rfl ?_
  (refine AA (AK rfl (AF rfl (AD rfl (AG rfl (by assumption) ?_)))) <;> refine As rfl (AH rfl ?_))
  repeat refine nx rfl ?_
  refine BY (α := Nat) (fun k => [(0, .pointer (some ⟨b, o, none⟩)), (1, .bool (C1 f.op).past), (2, .int .i64 (d : Int)), (5, pt c5), (43, .int .i64 (f.args.length : Int)), (44, .int .i64 (k : Int))]) (fun k W => k ≤ f.args.length ∧ Keep X w W ∧ Ext w3 w3 ∧ J (L ++ ((f, false) :: C8 (C1 f.op).past (f.args.take k))) W ∧ GF W ∧ PF (fun b => b ∉ X ∧ b < B) W b o f ∧ Blk W c4 169 [.func (.yield y) #[] #[]] ∧ Blk W c5 173 [.func (.func 117) #[] #[pt c3, pt c4, pt c5]]) (fun k => f.args.length - k) 0 ⟨rfl, rfl, rfl, rfl, rfl, rfl, trivial⟩ ⟨by omega, k13, Ext.refl _, by simpa [C8] using hJ3, hG3, hf3, b43, b53⟩ ?_
  rintro k W fr ⟨hk, kW, _, hJW, hGW, hfW, b4W, b5W⟩
  repeat refine nx rfl ?_
  by_cases hlt : k < f.args.length
  ·refine AA (BM rfl rfl (by omega) ?_)
   repeat refine nx rfl ?_
   refine AA (AH rfl (AB (AH rfl ?_)))
   repeat refine nx rfl ?_
   obtain ⟨x, hx⟩ : ∃ x, f.args[k]? = some x := ⟨_, List.getElem?_eq_getElem hlt⟩
   obtain ⟨aa, cc, _, hargs, hel⟩ := hfW.arg
   obtain ⟨b', o', rfl, hfx⟩ := hel k x hx
   have hfa : f.args = f.args.take k ++ x :: f.args.drop (k + 1) := by
    have := List.take_append_drop k f.args
    rw [List.drop_eq_getElem_cons hlt, (List.getElem?_eq_some_iff.1 hx).2] at this
    exact this.symm
   have hpe : C8 (C1 f.op).past f.args = C8 (C1 f.op).past (f.args.take k) ++ (preF (C1 f.op).past x ++ C8 (C1 f.op).past (f.args.drop (k + 1))) := by
    conv => lhs; rw [hfa, preL_app]
    simp [C8]
   have hPx : (L ++ ((f, false) :: C8 (C1 f.op).past (f.args.take k))) ++ preF (C1 f.op).past x <+: P := by
    refine List.IsPrefix.trans ?_ hP
    rw [preF_eq false f, List.append_assoc, List.prefix_append_right_inj]
    show _ <+: (f, false) :: C8 (C1 f.op).past f.args
    rw [hpe, List.cons_append, List.prefix_cons_inj, List.prefix_append_right_inj]
    exact List.prefix_append _ _
   have hdx : dpF x ≤ n := by have := dpL_mem (List.mem_of_getElem? hx); omega
   refine A7 (.read 0 (.read 1 (.read 2 (.read 3 (.read 4 (.read 5 (.read 6 (.read 7 (.read 8 (.read 9 (.alt 10 (.read 11 .done) .stop))))))))))) BA (by kernel_rfl) (fun wd kd ed => ⟨Keep X wd, ?_, ?_⟩)
   ·exact Keep.refl _ _
   have ca : ∀ V, Keep X wd V → V.cell? ⟨c5, 0, none⟩ = some (.func (.func 117) #[] #[pt c3, pt c4, pt c5]) := fun V e => ((b5W.keep kd (by simp)).keep e h5).cell rfl
   have cb : ∀ V, Keep X wd V → V.cell? ⟨b, o + 4, none⟩ = some (.slice (some ⟨b', o', none⟩) f.args.length cc) := fun V e => e.cell (kd.cell hargs (by simp)) hfW.1.1
   (refine D_R rfl rfl (fun W hW => AG rfl (ca W hW) Z3) (D_R rfl rfl (fun W hW => AK rfl Z3) (D_R rfl rfl (fun W hW => AF rfl Z3) (D_R rfl rfl (fun W hW => AD rfl Z3) (D_R rfl rfl (fun W hW => AG rfl (cb W hW) Z3) (D_R rfl rfl (fun W hW => AH rfl Z3) (D_R rfl rfl (fun W hW => CH rfl rfl rfl (by omega) Z3) (D_R rfl rfl (fun W hW => AC rfl Z3) (D_R rfl rfl (fun W hW => AH rfl Z3) ?_)))))))) <;> (apply D_R rfl rfl; (intro W hW; refine BR rfl rfl (by first | exact Al (by omega) (by omega) | exact At (by omega) (by omega) | exact Am (by omega) (by omega)) ?_; exact Z3)))
   refine D_E rfl ?_
   refine Bz (v1 := []) (v2 := [pt c3, pt c4, pt c5]) (vs := [.pointer (some ⟨b', o' + k * 5, none⟩), .bool (C1 f.op).past, .int .i64 ((d : Int) + 1)]) rfl (ih wd b' (o' + k * 5) x (C1 f.op).past (d + 1) _ hdx (by omega) (hfx.keep kd (fun _ _ => by simp)) (hGW.ext kd) (b4W.keep kd (by simp)) (b5W.keep kd (by simp)) (H.ext hJW kd) hPx) rfl ?_
   rintro _ w4 ⟨k4, hr⟩
   refine AI ⟨Keep X wd, fun _ e => e, k4, ?_⟩
   have kW4 : Keep X w w4 := (kW.ext kd).trans k4 (fun _ hx _ => hx)
   rcases hr with ⟨rfl, hJ4⟩ | ⟨rfl, M, hM1, hM2, hD⟩
   ·refine D_R rfl rfl (fun W hW => BL rfl Z3) (Ay ?_)
    repeat first | refine nx rfl ?_ | refine nf rfl ?_
    (refine AA (BR rfl rfl (by first | exact Al (by omega) (by omega) | exact At (by omega) (by omega) | exact Am (by omega) (by omega)) ?_) <;> refine AH rfl ?_)
    repeat refine nx rfl ?_
    refine ⟨k + 1, ⟨rfl, ⟨rfl, rfl, rfl, rfl, rfl, ?_, trivial⟩, ⟨by omega, kW4, Ext.refl _, ?_, (hGW.ext kd).keep k4 H.glob, (hfW.keep kd (fun _ _ => by simp)).keep k4 (fun _ h => h.1), (b4W.keep kd (by simp)).keep k4 h4, (b5W.keep kd (by simp)).keep k4 h5⟩⟩, by omega⟩
    ·show Value.int .i64 ((k : Int) + 1) = _
     rw [Int.natCast_add]; rfl
    ·rw [preL_take _ hx]; simpa using hJ4
   ·refine D_R rfl rfl (fun W hW => BL rfl Z3) (Ay ?_)
    repeat refine nx rfl ?_
    refine AA (AB (AC rfl ?_))
    repeat refine nx rfl ?_
    refine AP rfl ⟨kW4, .inr ⟨rfl, (f, false) :: C8 (C1 f.op).past (f.args.take k) ++ M, ?_, by simp, by simpa using hD⟩⟩
    rw [preF_eq]
    show _ <+: (f, false) :: C8 (C1 f.op).past f.args
    rw [hpe, List.cons_append, List.prefix_cons_inj, List.prefix_append_right_inj]
    exact hM1.trans (List.prefix_append _ _)
  ·refine AA (BN rfl rfl (by omega) ?_)
   repeat first | refine nx rfl ?_ | refine nf rfl ?_
   refine AA (AB (AC rfl ?_))
   repeat refine nx rfl ?_
   rw [List.take_of_length_le (by omega)] at hJW
   refine AP rfl ⟨kW, .inl ⟨rfl, by rw [preF_eq]; exact hJW⟩⟩
end Go.Proofs.YtfcgdbmoncnibaaGreatDoor
namespace Go.Proofs.YtfcgdbmoncnibaaGreatDoor
open Go.RowKit
set_option linter.unusedVariables false
variable {mk : Prop} [MK mk]
theorem madePut : (madeCells (Value.agg #[.pointer none, .bool false]).cells (1 * 2)).toList = [.pointer none, .bool false] := by kernel_rfl
theorem nodesIt_ok {yv : Value} {X : List Nat} {J D : List Nd → World → Prop} (w : World) (cf b o : Nat) (f : Fml) (H : NodesR yv X w.heap.size (preF false f) J D) (hcf : Blk w cf 76 [.pointer (some ⟨b, o, none⟩)]) (hf : PF (fun b => b ∉ X ∧ b < w.heap.size) w b o f) (hG : GF w) (hN : 10 ≤ w.heap.size) (hd : dpF f ≤ 5000) (hJ : J [] w) (hX : ∀ x ∈ X, x < w.heap.size) :
  Fn Tryz.prog 116 [yv, pt cf] w fun _ w' => Keep X w w' ∧ (J (preF false f) w' ∨ ∃ M, M <+: preF false f ∧ M ≠ [] ∧ D M w') := by
 have hX' : ∀ {c : Nat}, w.heap.size ≤ c → c ∉ X := fun h hx => by have := hX _ hx; omega
 have hy := H.fn
 obtain ⟨y, rfl⟩ := hy
 refine Ad Tryz.func116 rfl Tryz.ntmps116 (Nat.le_of_ble_eq_true rfl) (by kernel_rfl) ?_
 repeat refine nx rfl ?_
 (refine AA ?_; refine Bs (L := [.func (.yield y) #[] #[]]) rfl (fun w1 n1 => ?_))
 repeat refine nx rfl ?_
 have c1 : w1.cell? ⟨cf, 0, none⟩ = some (.pointer (some ⟨b, o, none⟩)) := (hcf.keep n1.keep (by simp)).cell rfl
 (refine AA (AG rfl (by assumption) ?_) <;> refine Ac (by rfl) (by rfl) ?_)
 refine AT (out := [.pointer (some ⟨b, o, none⟩), .bool false]) rfl (by omega) (by rw [madePut]; rfl) (fun w2 n2 => ?_)
 refine Aw (fun w3 n3 => ?_)
 refine Ak (v := .slice (some ⟨w1.heap.size, 0, none⟩) 1 1) rfl rfl rfl n3.blk (by simp) (fun w4 p4 => ?_)
 repeat refine nx rfl ?_
 (refine AA ?_; refine Aw (fun w5 n5 => ?_))
 repeat refine nx rfl ?_
 refine AA (BC rfl rfl ?_)
 refine Ak (v := .func (.func 117) #[] #[pt w2.heap.size, pt w.heap.size, pt w4.heap.size]) rfl rfl rfl n5.blk (by simp) (fun w6 p6 => ?_)
 repeat refine nx rfl ?_
 have z1 := n1.size
 have z2 := n2.size
 have z3 := n3.size
 have z4 := p4.size
 have z5 := n5.size
 have z6 := p6.size
 have k24 : Ext w2 w4 := n3.keep.keep p4.keep (by simp)
 have k46 : Ext w4 w6 := n5.keep.keep p6.keep (by simp)
 have k26 := k24.trans k46
 have k16 := n2.keep.trans k26
 have k6 : Ext w w6 := n1.keep.trans k16
 have b4 : Blk w6 w.heap.size 169 [.func (.yield y) #[] #[]] := n1.blk.keep k16 (by simp)
 have bp : Blk w6 w1.heap.size 171 [.pointer (some ⟨b, o, none⟩), .bool false] := n2.blk.keep k26 (by simp)
 have b3 : Blk w6 w2.heap.size 172 [.slice (some ⟨w1.heap.size, 0, none⟩) 1 1] := p4.blk.keep k46 (by simp)
 have b5 : Blk w6 w4.heap.size 173 [.func (.func 117) #[] #[pt w2.heap.size, pt w.heap.size, pt w4.heap.size]] := p6.blk
 have x4 : w.heap.size ∉ X := hX' (Nat.le_refl _)
 have xp : w1.heap.size ∉ X := hX' (by omega)
 have x3 : w2.heap.size ∉ X := hX' (by omega)
 have x5 : w4.heap.size ∉ X := hX' (by omega)
 replace hG := hG.ext k6
 replace hf := hf.keep k6 (fun _ _ => by simp)
 replace hJ := H.ext hJ k6
 clear c1 n1 n2 n3 p4 n5 p6
 refine BY (α := Nat) (fun k => [(3, pt w2.heap.size), (4, pt w4.heap.size)]) (fun k W => k ≤ 1 ∧ Keep X w W ∧ (k = 1 → J [] W) ∧ (k = 0 → J (preF false f) W) ∧ GF W ∧ PF (fun b => b ∉ X ∧ b < w.heap.size) W b o f ∧ Blk W w2.heap.size 172 [.slice (some ⟨w1.heap.size, 0, none⟩) k 1] ∧
  Blk W w1.heap.size 171 [.pointer (some ⟨b, o, none⟩), .bool false] ∧ Blk W w.heap.size 169 [.func (.yield y) #[] #[]] ∧ Blk W w4.heap.size 173 [.func (.func 117) #[] #[pt w2.heap.size, pt w.heap.size, pt w4.heap.size]]) (fun k => k) 1 ⟨rfl, rfl, trivial⟩
  ⟨by omega, k6.any, fun _ => hJ, fun h => by omega, hG, hf, b3, bp, b4, b5⟩ ?_
 clear b3 bp b4 b5 hG hf hJ
 rintro k W fr ⟨hk, kW, hJ1, hJ0, hGW, hfW, b3, bp, b4, b5⟩
 repeat refine nx rfl ?_
 by_cases hk0 : k = 0
 ·subst hk0
  (refine AA (AG rfl (Blk.cell (by assumption) (by rfl)) ?_) <;> refine As rfl (W_gtrF rfl rfl (by omega) ?_))
  repeat first | refine nx rfl ?_ | refine nf rfl ?_
  exact Az rfl ⟨kW, .inl (hJ0 rfl)⟩
 obtain rfl : k = 1 := by omega
 (refine AA (AG rfl (Blk.cell (by assumption) (by rfl)) ?_) <;> refine As rfl (W_gtrT rfl rfl (by omega) ?_))
 repeat refine nx rfl ?_
 (refine AA (AG rfl (Blk.cell (by assumption) (by rfl)) ?_) <;> refine AG rfl (Blk.cell (by assumption) (by rfl)) ?_ <;> refine As rfl (W_sub rfl rfl (by first | exact Al (by omega) (by omega) | exact At (by omega) (by omega) | exact Am (by omega) (by omega)) ?_))
 refine CH (k := 0) rfl rfl rfl (by omega) ?_
 refine AW rfl bp rfl ?_
 refine BE (cs := [.pointer (some ⟨b, o, none⟩), .bool false]) rfl rfl (by rfl) (Bj rfl) (fun w7 n7 => ?_)
 refine AI ?_
 have l3 := b3.lt
 have b37 := b3.keep n7.keep (by simp)
 have z7 := n7.size
 repeat refine nx rfl ?_
 (refine AA (AG rfl (Blk.cell (by assumption) (by rfl)) ?_) <;> refine AG rfl (Blk.cell (by assumption) (by rfl)) ?_ <;> refine As rfl (W_sub rfl rfl (by first | exact Al (by omega) (by omega) | exact At (by omega) (by omega) | exact Am (by omega) (by omega)) ?_))
 refine W_slice_h rfl rfl (by omega) (by omega) ?_
 refine Ak (v := .slice (some ⟨w1.heap.size, 0, none⟩) 0 1) rfl rfl rfl b37 (by simp) (fun w8 p8 => ?_)
 repeat refine nx rfl ?_
 have b7 := n7.blk.keep p8.keep (by simp; omega)
 have k78 : Keep [w2.heap.size] W w8 := (n7.keep.mono (fun _ h => by cases h)).trans p8.keep (fun _ h _ => h)
 have m24 : w.heap.size ≠ w2.heap.size := by omega
 have m25 : w4.heap.size ≠ w2.heap.size := by omega
 have bp8 := bp.keep k78 (by simp; omega)
 have b48 := b4.keep k78 (by simp; omega)
 have b58 := b5.keep k78 (by simp; omega)
 have hG8 := hGW.keep k78 (fun x hx => by simp at hx; omega)
 have hf8 := hfW.keep k78 (fun x hx => by have := hx.2; simp; omega)
 have hJ8 := H.keep (hJ1 rfl) k78 (fun x hx => by simp at hx; omega)
 have kW8 : Keep X w w8 := kW.trans k78 (fun x hx h => by simp at hx; omega)
 have e0 : w8.cell? ⟨W.heap.size, 0 + 0, none⟩ = some (.pointer (some ⟨b, o, none⟩)) := b7.cell rfl
 have e1 : w8.cell? ⟨W.heap.size, 0 + 1, none⟩ = some (.bool false) := b7.cell rfl
 (refine AA (AG rfl (Blk.cell (by assumption) (by rfl)) ?_) <;> refine AD rfl (AG rfl (Blk.cell (by assumption) (by rfl)) ?_) <;> refine AD rfl (AG rfl (Blk.cell (by assumption) (by rfl)) ?_))
 refine Bz (v1 := []) (v2 := [pt w2.heap.size, pt w.heap.size, pt w4.heap.size]) (vs := [.pointer (some ⟨b, o, none⟩), .bool false, .int .i64 0]) rfl (visit_ok H w2.heap.size w.heap.size w4.heap.size x4 x5 (dpF f) w8 b o f false 0 [] (Nat.le_refl _) (by omega) hf8 hG8 b48 b58 hJ8 (by simp)) rfl ?_
 rintro _ w9 ⟨k9, hr⟩
 have b39 := p8.blk.keep k9 x3
 have kW9 : Keep X w w9 := kW8.trans k9 (fun _ h _ => h)
 rcases hr with ⟨rfl, hJ9⟩ | ⟨rfl, M, hM1, hM2, hD⟩
 ·refine BL rfl ?_
  repeat first | refine nx rfl ?_ | refine nf rfl ?_
  refine ⟨0, ⟨rfl, ⟨rfl, rfl, trivial⟩, ⟨by omega, kW9, fun h => by omega, fun _ => by simpa using hJ9, hG8.keep k9 H.glob, hf8.keep k9 (fun _ h => h.1), b39, bp8.keep k9 xp, b48.keep k9 x4, b58.keep k9 x5⟩⟩, by omega⟩
 ·refine BL rfl ?_
  repeat refine nx rfl ?_
  exact fin_ret0 rfl ⟨kW9, .inr ⟨M, hM1, hM2, by simpa using hD⟩⟩
theorem nodes_ok (w : World) (b o : Nat) : Fn Tryz.prog 71 [.pointer (some ⟨b, o, none⟩)] w fun v w' => v = .func (.func 116) #[] #[pt w.heap.size] ∧ New w w' 76 [.pointer (some ⟨b, o, none⟩)] := by
 refine Ad Tryz.func71 rfl Tryz.ntmps71 (Nat.le_of_ble_eq_true rfl) (by kernel_rfl) ?_
 repeat refine nx rfl ?_
 (refine AA ?_; refine Bs (L := [.pointer (some ⟨b, o, none⟩)]) rfl (fun w1 n1 => ?_))
 refine AB (Ax ?_)
 repeat refine nx rfl ?_
 refine AA (BC rfl rfl (AB (Cl rfl ?_)))
 repeat refine nx rfl ?_
 exact AP rfl ⟨rfl, n1⟩
theorem preF_len : ∀ f i, (preF i f).length = szF f
 | .mk op nm v b args, i => by
  simp only [preF, szF, List.length_cons, preL_len args]
where preL_len : ∀ (l : List Fml) (i : Bool), (C8 i l).length = szL l
 | [], _ => rfl
 | f :: l, i => by simp only [C8, szL, List.length_append, preF_len f i, preL_len l i]
theorem fsize_ok (w : World) (v : Value) (f : Fml) (hf : FAt BH w v f) (hG : GF w) (hN : 10 ≤ w.heap.size) (hd : dpF f ≤ 5000) (hz : szF f ≤ 1000000) : Fn Tryz.prog 39 [v] w fun u w' => u = .int .i64 (szF f : Int) ∧ Ext w w' := by
 have hflt := hf.lt
 obtain ⟨cs, rfl, hcs, hone⟩ := hf.cells
 refine fn_of_wcD Tryz.func39 rfl Tryz.ntmps39 (Nat.le_of_ble_eq_true rfl) (by kernel_rfl) ?_
 repeat refine nx rfl ?_
 (refine AA ?_; refine Bs (L := cs) rfl (fun w1 n1 => ?_))
 refine AB (AH rfl ?_)
 repeat refine nx rfl ?_
 (refine AA ?_; refine Aw (fun w2 n2 => ?_))
 refine Ak (v := .int .i64 0) rfl rfl rfl n2.blk (by simp) (fun w3 p3 => ?_)
 repeat refine nx rfl ?_
 have z1 := n1.size
 have z2 := n2.size
 have z3 := p3.size
 have k23 := n2.keep.keep p3.keep (by simp)
 have k3 : Ext w w3 := n1.keep.trans k23
 have b1 := n1.blk.keep k23 (by simp)
 have b2 : Blk w3 w1.heap.size 3 [.int .i64 0] := p3.blk
 have hf3 : PF (fun b => b < w1.heap.size) w3 w.heap.size 0 f := ⟨by omega, cs, hcs, b1.cells, (hflt.ext k3).mono fun x hx => by have := hx.2; omega⟩
 refine AA ?_
 refine AS (nodes_ok w3 _ _) rfl ?_
 rintro _ w4 ⟨rfl, n4⟩
 repeat refine nx rfl ?_
 have z4 := n4.size
 replace b2 := b2.keep n4.keep (by simp)
 replace hf3 := hf3.keep n4.keep (fun _ _ => by simp)
 have b4 := n4.blk
 have k4 : Ext w w4 := k3.trans n4.keep
 refine C_range [] [pt w3.heap.size] rfl (by kernel_rfl) fun Rdy Bsy Don w6 HL k6 s6 m6 r6 => ?_
 replace b2 := b2.keep k6 (by simp)
 replace b4 := b4.keep k6 (by simp)
 replace hf3 := hf3.keep k6 (fun _ _ => by simp)
 have e6 : Ext w w6 := k4.trans k6
 have hlen : w6.heap.size = w.heap.size + 5 := by omega
 obtain ⟨J, hJ⟩ : ∃ J : List Nd → World → Prop, ∀ l W, J l W ↔ (Ext w W ∧ Blk W w1.heap.size 3 [.int .i64 l.length] ∧ Rdy W ∧ W.heap[w4.heap.size]? = some (.deferred (some [])) ) := ⟨_, fun _ _ => Iff.rfl⟩
 have H : NodesR (.func (.yield (w4.heap.size + 1)) #[] #[]) [w1.heap.size, w4.heap.size + 1] w6.heap.size (preF false f) J (fun _ _ => False) := by
  refine ⟨⟨_, rfl⟩, fun x hx => by simp at hx; omega, fun hj k hY => ?_, fun {L W b o g i} hj hp hP => ?_⟩
  ·obtain ⟨j1, j2, j3, j4⟩ := (hJ _ _).1 hj
   exact (hJ _ _).2 ⟨j1.keep k (fun x hx => by have := hY x hx; omega), j2.keep k (fun h => by have := hY _ h; omega), HL.rdy j3 k (fun h => by have := hY _ h; omega), (k.block _ (by have := HL.lt j3; omega) (fun h => by have := hY _ h; omega)).trans j4⟩
  ·obtain ⟨j1, j2, j3, j4⟩ := (hJ _ _).1 hj
   have hlt := HL.lt j3
   have hLl : L.length + 1 ≤ 1000000 := by
    have := hP.length_le
    rw [preF_len] at this
    simp at this; omega
   refine YldP.mono (R := fun v W' => v = .bool true ∧ Keep [w1.heap.size, w4.heap.size + 1] W W' ∧ J (L ++ [(g, i)]) W') (Y := fun _ _ => False) (HL.round j3 rfl ?_) (fun v W' h => ⟨h.2.1, .inl ⟨h.1, h.2.2⟩⟩) (fun _ _ h => h)
   repeat refine nx rfl ?_
   refine ⟨j3, fun W2 q2 y2s y2 => ?_⟩
   replace j2 := j2.keep q2 (by simp; omega)
   replace j4 := (q2.block _ (by omega) (by simp)).trans j4
   have e2 := j1.keep q2 (by simp; omega)
   have q2' : Keep [w1.heap.size, w4.heap.size + 1] W W2 := q2.mono (fun x hx => by simp at hx; simp [hx])
   repeat refine nx rfl ?_
   (refine AA (AG rfl (Blk.cell (by assumption) (by rfl)) ?_) <;> refine BR rfl rfl (by first | exact Al (by omega) (by omega) | exact At (by omega) (by omega) | exact Am (by omega) (by omega)) ?_)
   refine Ak (v := .int .i64 ((L.length : Int) + 1)) rfl rfl rfl j2 (by simp) (fun W3 p3 => ?_)
   obtain ⟨q3, z3, y3⟩ := p3
   replace j4 := (q3.block _ (by omega) (by simp; omega)).trans j4
   replace e2 := e2.keep q3 (by simp; omega)
   replace y2 := HL.bsy y2 q3 (by simp; omega)
   have q3' : Keep [w1.heap.size, w4.heap.size + 1] W W3 := q2'.trans q3 (fun x hx _ => by simp at hx; simp [hx])
   repeat refine nx rfl ?_
   refine Q_rnd y2 fun W5 q5 z5 y5 => ⟨rfl, q3'.trans q5 (fun x hx _ => by simp at hx; simp [hx]), (hJ _ _).2 ⟨e2.keep q5 (by simp; omega), ?_, y5, (q5.block _ (by omega) (by simp)).trans j4⟩⟩
   rw [show ((L ++ [(g, i)]).length : Int) = (L.length : Int) + 1 by simp]
   exact y3.keep q5 (by simp; omega)
 refine Fn.mono (nodesIt_ok w6 w3.heap.size w.heap.size 0 f H b4 (hf3.mono fun x hx => by simp; omega) (hG.ext e6) (Nat.le_trans hN e6.size) hd ((hJ _ _).2 ⟨e6, b2, r6, m6⟩) (fun x hx => by simp at hx; omega)) ?_
 rintro v w7 ⟨_, hj | ⟨_, _, _, hh⟩⟩
 case inr => exact hh.elim
 obtain ⟨j1, j2, j3, j4⟩ := (hJ _ _).1 hj
 have hlt := HL.lt j3
 refine .inl ⟨j3, fun w8 k8 s8 => ?_⟩
 clear hJ H hj HL r6 m6 b4
 replace j2 := j2.keep k8 (by simp; omega)
 replace j4 := (k8.block _ (by omega) (by simp)).trans j4
 have e8 := j1.keep k8 (by simp; omega)
 rw [preF_len] at j2
 repeat refine nx rfl ?_
 (refine AA (AG rfl (Blk.cell (by assumption) (by rfl)) ?_) <;> refine AB (AH rfl ?_))
 repeat refine nx rfl ?_
 refine finD_mark j4 fun w9 k9 s9 => ?_
 exact finD_ret1 rfl ⟨rfl, e8.keep k9 (by simp; omega)⟩
end Go.Proofs.YtfcgdbmoncnibaaGreatDoor
namespace Go.Proofs.YtfcgdbmoncnibaaGreatDoor
open Go.RowKit
set_option linter.unusedVariables false
theorem madeReq3 : (madeCells (Value.agg #[AM [], AM [], .int .i64 0, .int .i64 0, AM [], .int .i64 0, .int .i64 0, .slice none 0 0]).cells (3 * 8)).toList = [AM [], AM [], .int .i64 0, .int .i64 0, AM [], .int .i64 0, .int .i64 0, .slice none 0 0, AM [], AM [], .int .i64 0, .int .i64 0, AM [], .int .i64 0, .int .i64 0, .slice none 0 0, AM [], AM [], .int .i64 0, .int .i64 0, AM [], .int .i64 0, .int .i64 0, .slice none 0 0] := by kernel_rfl
def exF : Fml := ⟨12, [], 0, 0, [⟨7, [], 0, 0, [isF [114] 1, ⟨13, [], 0, 3, [isF [103] 1]⟩]⟩]⟩
def exT : Fml := ⟨1, [], 0, 0, []⟩
def exS : Spc := ⟨[⟨[114], true, 2⟩, ⟨[103], false, 3⟩], [⟨[112], [111, 110, 101], 2, exF⟩, ⟨[112], [116, 119, 111], 1, exT⟩, ⟨[113], [111, 110, 101], 2, isF [103] 2⟩]⟩
theorem FAt.fives {ok : Nat → Prop} {w : World} {v : Value} {f : Fml} (h : FAt ok w v f) : ∃ c0 c1 c2 c3 c4, v = .agg [c0, c1, c2, c3, c4].toArray ∧ oneC [c0, c1, c2, c3, c4] := by
 obtain ⟨cs, rfl, hcs, hone⟩ := FAt.cells h
 obtain ⟨c0, c1, c2, c3, c4, rfl⟩ := CW hcs
 exact ⟨_, _, _, _, _, rfl, hone⟩
theorem example_ok (w : World) : Fn Tryz.prog 32 [] w fun v w' => ∃ c, v = .agg c.toArray ∧ spcR.fits BH w' c exS ∧ Ext w w' := by
 refine Ad Tryz.func32 rfl Tryz.ntmps32 (Nat.le_of_ble_eq_true rfl) (by kernel_rfl) ?_
 repeat refine nx rfl ?_
 (refine AA ?_; refine Aw (fun w1 n1 => ?_))
 have b0 : Blk w1 w.heap.size 28 [.slice none 0 0, .slice none 0 0] := n1.blk
 have z1 := n1.size
 repeat refine nx rfl ?_
 refine AA ?_
 refine AS (ris_ok w1 [114] 1) rfl ?_
 rintro vr w2 ⟨k2, fr⟩
 refine AS (ris_ok w2 [103] 1) rfl ?_
 rintro vg w3 ⟨k3, fg⟩
 obtain ⟨g0, g1, g2, g3, g4, rfl, og⟩ := FV.five fg
 refine AT (out := [g0, g1, g2, g3, g4]) rfl (by omega) (by rw [made5]; rfl) (fun w4 n4 => ?_)
 have z4 : w.heap.size < w3.heap.size := by have := k2.size; have := k3.size; omega
 obtain ⟨S4, F4⟩ := FsAt.fresh (ok := fun b => b ≠ w.heap.size) (L := [[g0, g1, g2, g3, g4]]) n4 (FsAt.one (fg.any rfl) rfl) (by simp; omega) (by simp)
 refine Ac (by rfl) (by rfl) ?_
 refine AS (rtwoX_ok w4 7 (fun b => b ≠ w.heap.size) _ _ (isF [114] 1) ⟨13, [], 0, 3, [isF [103] 1]⟩ (fr.any rfl) (FAt.node 13 [] 0 3 S4 F4) (fun x hx => by have := n4.keep.size; omega)) rfl ?_
 rintro va w5 ⟨k5, fa⟩
 refine AS (roneX_ok w5 12 (fun b => b ≠ w.heap.size) _ _ fa (by have := k5.size; have := n4.keep.size; omega) (fun x hx => by have := k5.size; have := n4.keep.size; omega)) rfl ?_
 rintro vf w6 ⟨k6, fF⟩
 obtain ⟨f0, f1, f2, f3, f4, rfl, of⟩ := FAt.fives fF
 refine BE (cs := [f0, f1, f2, f3, f4]) rfl rfl (by rfl) of (fun w7 n7 => ?_)
 have z6 : w.heap.size < w6.heap.size := by have := k6.size; have := k5.size; have := n4.keep.size; omega
 have b7 := n7.blk
 have k7 : Ext w1 w7 := ((((k2.trans k3).trans n4.keep).trans k5).trans k6).trans n7.keep
 replace b0 := b0.keep k7 (by simp)
 replace fF := fF.ext n7.keep
 clear fr fg fa S4 F4
 repeat refine nx rfl ?_
 refine A7 (.read 0 (.read 1 (.read 3 (.read 4 (.alt 2 (.alt 5 (.read 6 (.alt 7 (.read 8 (.alt 9 (.read 10 (.alt 11 .done .stop)) .stop)) .stop)) .stop) (.alt 5 (.read 6 (.alt 2 (.alt 7 (.read 8 (.alt 9 (.read 10 (.alt 11 .done .stop)) .stop)) .stop) (.alt 7 (.read 8 (.alt 2 (.alt 9 (.read 10 (.alt 11 .done .stop)) .stop) (.alt 9 (.alt 2 (.read 10 (.alt 11 .done .stop)) .stop) .stop))) .stop))) .stop)))))) BA (by kernel_rfl) (fun wd kd ed => ⟨Keep [w.heap.size] wd, ?_, ?_⟩)
 ·exact Keep.refl _ _
 have ca : ∀ W, Keep [w.heap.size] wd W → Cells W w6.heap.size 0 [f0, f1, f2, f3, f4] := fun W e => ((b7.keep kd (by simp)).keep e (by simp; omega)).cells
 replace fF := fF.ext kd
 replace b0 := b0.keep kd (by simp)
 have k0 := k7.trans kd
 have lz := k0.size
 have er : Ext wd wd := Ext.refl _
 ((apply D_R rfl rfl; (intro W hW; refine Ac (by rfl) (by rfl) ?_; exact Z3)) <;> (apply D_R rfl rfl; (intro W hW; refine Ac (by rfl) (by rfl) ?_; exact Z3)) <;> (apply D_R rfl rfl; (intro W hW; refine AZ rfl (by rfl) (ca W hW) ?_; exact Z3)) <;> (apply D_R rfl rfl; (intro W hW; refine Ac (by rfl) (by rfl) ?_; exact Z3)))
 refine D_A rfl ?_ ?_
 ·refine AT (out := Ce ⟨[114], true, 2⟩ ++ Ce ⟨[103], false, 3⟩) rfl (by omega) (by rw [madeSgn2]; rfl) (fun v2 m2 => ?_)
  have bs := m2.blk
  have e2 := er.trans m2.keep
  have l2 := e2.size
  replace fF := fF.ext m2.keep
  try replace ft := ft.ext m2.keep
  try replace fq := fq.ext m2.keep
  try replace br := br.keep m2.keep (by simp)
  refine AI ⟨Keep [w.heap.size] wd, fun _ e => e, e2.any, ?_⟩
  refine D_E rfl ?_
  refine AS (rtrue_ok v2) rfl ?_
  rintro vt v5 ⟨q5, ft⟩
  obtain ⟨t0, t1, t2, t3, t4, rfl, ot⟩ := FV.five ft
  have e5 := e2.trans q5
  have l5 := e5.size
  replace fF := fF.ext q5
  try replace bs := bs.keep q5 (by simp)
  refine AI ⟨Keep [w.heap.size] wd, fun _ e => e, e5.any, ?_⟩
  ((apply D_R rfl rfl; (intro W hW; refine Ac (by rfl) (by rfl) ?_; exact AI ⟨rfl, rfl, rfl⟩)))
  refine D_E rfl ?_
  refine AS (ris_ok v5 [103] 2) rfl ?_
  rintro vq v7 ⟨q7, fq⟩
  obtain ⟨q0, q1, q2, q3, q4, rfl, oq⟩ := FV.five fq
  have e7 := e5.trans q7
  have l7 := e7.size
  replace fF := fF.ext q7
  replace ft := ft.ext q7
  try replace bs := bs.keep q7 (by simp)
  refine AI ⟨Keep [w.heap.size] wd, fun _ e => e, e7.any, ?_⟩
  ((apply D_R rfl rfl; (intro W hW; refine Ac (by rfl) (by rfl) ?_; exact AI ⟨rfl, rfl, rfl⟩)))
  refine D_E rfl ?_
  refine AT (out := [AM [112], AM [111, 110, 101], .int .i64 2] ++ [f0, f1, f2, f3, f4] ++ ([AM [112], AM [116, 119, 111], .int .i64 1] ++ [t0, t1, t2, t3, t4]) ++ ([AM [113], AM [111, 110, 101], .int .i64 2] ++ [q0, q1, q2, q3, q4])) rfl (by omega) (by rw [madeReq3]; rfl) (fun v9 m9 => ?_)
  have br := m9.blk
  have e9 := e7.trans m9.keep
  have l9 := e9.size
  replace fF := fF.ext m9.keep
  replace ft := ft.ext m9.keep
  replace fq := fq.ext m9.keep
  try replace bs := bs.keep m9.keep (by simp)
  refine AI ⟨Keep [w.heap.size] wd, fun _ e => e, e9.any, ?_⟩
  ((apply D_R rfl rfl; (intro W hW; refine Ac (by rfl) (by rfl) ?_; exact AI ⟨rfl, rfl, rfl⟩)))
  refine D_E rfl ?_
  have sz := e9.size
  have ls : w.heap.size < wd.heap.size := by omega
  have lr : w.heap.size < v7.heap.size := by omega
  refine Aa (cs := [.slice (some ⟨wd.heap.size, 0, none⟩) 2 2, .slice (some ⟨v7.heap.size, 0, none⟩) 3 3]) rfl rfl rfl (Bj rfl) (b0.keep e9 (by simp)) (by simp) (fun vz pz => ?_)
  have bz : Blk vz w.heap.size 28 [.slice (some ⟨wd.heap.size, 0, none⟩) 2 2, .slice (some ⟨v7.heap.size, 0, none⟩) 3 3] := pz.blk
  have kz : Keep [w.heap.size] wd vz := (e9.any).trans pz.keep (fun _ h _ => h)
  refine AI ⟨Keep [w.heap.size] wd, fun _ e => e, kz, ?_⟩
  refine Ay ?_
  repeat refine nx rfl ?_
  refine A6 rfl rfl rfl bz.cells ⟨_, rfl, ?_, (n1.keep.trans k0).keep kz (by simp)⟩
  replace fF := (fF.keep pz.keep (fun b hb => by simpa using hb)).mono (ok' := BH) fun _ _ => trivial
  replace ft := (FAt.any (ok' := fun b => b ≠ w.heap.size) (w' := vz) ft rfl).mono (ok' := BH) fun _ _ => trivial
  replace fq := (FAt.any (ok' := fun b => b ≠ w.heap.size) (w' := vz) fq rfl).mono (ok' := BH) fun _ _ => trivial
  refine ⟨_, _, rfl, ⟨_, _, [Ce ⟨[114], true, 2⟩, Ce ⟨[103], false, 3⟩], rfl, ?_, ?_⟩, ⟨_, _, [[AM [112], AM [111, 110, 101], .int .i64 2] ++ [f0, f1, f2, f3, f4], [AM [112], AM [116, 119, 111], .int .i64 1] ++ [t0, t1, t2, t3, t4], [AM [113], AM [111, 110, 101], .int .i64 2] ++ [q0, q1, q2, q3, q4]], rfl, ?_, ?_⟩⟩
  ·exact ⟨_, _, rfl, Nat.le_refl _, by simp, (fun h => by cases h), .inr ⟨_, _, rfl, trivial, (bs.keep pz.keep (by simp; omega)).cells⟩⟩
  ·exact (RsAt.one (R := sgnR) rfl).app (RsAt.one (R := sgnR) rfl)
  ·exact ⟨_, _, rfl, Nat.le_refl _, by simp, (fun h => by cases h), .inr ⟨_, _, rfl, trivial, (br.keep pz.keep (by simp; omega)).cells⟩⟩
  ·exact ((RsAt.one (R := reqR) (c := [AM [112], AM [111, 110, 101], .int .i64 2] ++ [f0, f1, f2, f3, f4]) ⟨_, rfl, rfl, fF⟩).app (RsAt.one (R := reqR) (c := [AM [112], AM [116, 119, 111], .int .i64 1] ++ [t0, t1, t2, t3, t4]) ⟨_, rfl, rfl, ft⟩)).app (RsAt.one (R := reqR) (c := [AM [113], AM [111, 110, 101], .int .i64 2] ++ [q0, q1, q2, q3, q4]) ⟨_, rfl, rfl, fq⟩)
 ·refine D_E rfl ?_
  refine AS (rtrue_ok wd) rfl ?_
  rintro vt v5 ⟨q5, ft⟩
  obtain ⟨t0, t1, t2, t3, t4, rfl, ot⟩ := FV.five ft
  have e5 := er.trans q5
  have l5 := e5.size
  replace fF := fF.ext q5
  try replace bs := bs.keep q5 (by simp)
  refine AI ⟨Keep [w.heap.size] wd, fun _ e => e, e5.any, ?_⟩
  ((apply D_R rfl rfl; (intro W hW; refine Ac (by rfl) (by rfl) ?_; exact AI ⟨rfl, rfl, rfl⟩)))
  refine D_A rfl ?_ ?_
  ·refine AT (out := Ce ⟨[114], true, 2⟩ ++ Ce ⟨[103], false, 3⟩) rfl (by omega) (by rw [madeSgn2]; rfl) (fun v2 m2 => ?_)
   have bs := m2.blk
   have e2 := e5.trans m2.keep
   have l2 := e2.size
   replace fF := fF.ext m2.keep
   try replace ft := ft.ext m2.keep
   try replace fq := fq.ext m2.keep
   try replace br := br.keep m2.keep (by simp)
   refine AI ⟨Keep [w.heap.size] wd, fun _ e => e, e2.any, ?_⟩
   refine D_E rfl ?_
   refine AS (ris_ok v2 [103] 2) rfl ?_
   rintro vq v7 ⟨q7, fq⟩
   obtain ⟨q0, q1, q2, q3, q4, rfl, oq⟩ := FV.five fq
   have e7 := e2.trans q7
   have l7 := e7.size
   replace fF := fF.ext q7
   replace ft := ft.ext q7
   try replace bs := bs.keep q7 (by simp)
   refine AI ⟨Keep [w.heap.size] wd, fun _ e => e, e7.any, ?_⟩
   ((apply D_R rfl rfl; (intro W hW; refine Ac (by rfl) (by rfl) ?_; exact AI ⟨rfl, rfl, rfl⟩)))
   refine D_E rfl ?_
   refine AT (out := [AM [112], AM [111, 110, 101], .int .i64 2] ++ [f0, f1, f2, f3, f4] ++ ([AM [112], AM [116, 119, 111], .int .i64 1] ++ [t0, t1, t2, t3, t4]) ++ ([AM [113], AM [111, 110, 101], .int .i64 2] ++ [q0, q1, q2, q3, q4])) rfl (by omega) (by rw [madeReq3]; rfl) (fun v9 m9 => ?_)
   have br := m9.blk
   have e9 := e7.trans m9.keep
   have l9 := e9.size
   replace fF := fF.ext m9.keep
   replace ft := ft.ext m9.keep
   replace fq := fq.ext m9.keep
   try replace bs := bs.keep m9.keep (by simp)
   refine AI ⟨Keep [w.heap.size] wd, fun _ e => e, e9.any, ?_⟩
   ((apply D_R rfl rfl; (intro W hW; refine Ac (by rfl) (by rfl) ?_; exact AI ⟨rfl, rfl, rfl⟩)))
   refine D_E rfl ?_
   have sz := e9.size
   have ls : w.heap.size < v5.heap.size := by omega
   have lr : w.heap.size < v7.heap.size := by omega
   refine Aa (cs := [.slice (some ⟨v5.heap.size, 0, none⟩) 2 2, .slice (some ⟨v7.heap.size, 0, none⟩) 3 3]) rfl rfl rfl (Bj rfl) (b0.keep e9 (by simp)) (by simp) (fun vz pz => ?_)
   have bz : Blk vz w.heap.size 28 [.slice (some ⟨v5.heap.size, 0, none⟩) 2 2, .slice (some ⟨v7.heap.size, 0, none⟩) 3 3] := pz.blk
   have kz : Keep [w.heap.size] wd vz := (e9.any).trans pz.keep (fun _ h _ => h)
   refine AI ⟨Keep [w.heap.size] wd, fun _ e => e, kz, ?_⟩
   refine Ay ?_
   repeat refine nx rfl ?_
   refine A6 rfl rfl rfl bz.cells ⟨_, rfl, ?_, (n1.keep.trans k0).keep kz (by simp)⟩
   replace fF := (fF.keep pz.keep (fun b hb => by simpa using hb)).mono (ok' := BH) fun _ _ => trivial
   replace ft := (FAt.any (ok' := fun b => b ≠ w.heap.size) (w' := vz) ft rfl).mono (ok' := BH) fun _ _ => trivial
   replace fq := (FAt.any (ok' := fun b => b ≠ w.heap.size) (w' := vz) fq rfl).mono (ok' := BH) fun _ _ => trivial
   refine ⟨_, _, rfl, ⟨_, _, [Ce ⟨[114], true, 2⟩, Ce ⟨[103], false, 3⟩], rfl, ?_, ?_⟩, ⟨_, _, [[AM [112], AM [111, 110, 101], .int .i64 2] ++ [f0, f1, f2, f3, f4], [AM [112], AM [116, 119, 111], .int .i64 1] ++ [t0, t1, t2, t3, t4], [AM [113], AM [111, 110, 101], .int .i64 2] ++ [q0, q1, q2, q3, q4]], rfl, ?_, ?_⟩⟩
   ·exact ⟨_, _, rfl, Nat.le_refl _, by simp, (fun h => by cases h), .inr ⟨_, _, rfl, trivial, (bs.keep pz.keep (by simp; omega)).cells⟩⟩
   ·exact (RsAt.one (R := sgnR) rfl).app (RsAt.one (R := sgnR) rfl)
   ·exact ⟨_, _, rfl, Nat.le_refl _, by simp, (fun h => by cases h), .inr ⟨_, _, rfl, trivial, (br.keep pz.keep (by simp; omega)).cells⟩⟩
   ·exact ((RsAt.one (R := reqR) (c := [AM [112], AM [111, 110, 101], .int .i64 2] ++ [f0, f1, f2, f3, f4]) ⟨_, rfl, rfl, fF⟩).app (RsAt.one (R := reqR) (c := [AM [112], AM [116, 119, 111], .int .i64 1] ++ [t0, t1, t2, t3, t4]) ⟨_, rfl, rfl, ft⟩)).app (RsAt.one (R := reqR) (c := [AM [113], AM [111, 110, 101], .int .i64 2] ++ [q0, q1, q2, q3, q4]) ⟨_, rfl, rfl, fq⟩)
  ·refine D_E rfl ?_
   refine AS (ris_ok v5 [103] 2) rfl ?_
   rintro vq v7 ⟨q7, fq⟩
   obtain ⟨q0, q1, q2, q3, q4, rfl, oq⟩ := FV.five fq
   have e7 := e5.trans q7
   have l7 := e7.size
   replace fF := fF.ext q7
   replace ft := ft.ext q7
   try replace bs := bs.keep q7 (by simp)
   refine AI ⟨Keep [w.heap.size] wd, fun _ e => e, e7.any, ?_⟩
   ((apply D_R rfl rfl; (intro W hW; refine Ac (by rfl) (by rfl) ?_; exact AI ⟨rfl, rfl, rfl⟩)))
   refine D_A rfl ?_ ?_
   ·refine AT (out := Ce ⟨[114], true, 2⟩ ++ Ce ⟨[103], false, 3⟩) rfl (by omega) (by rw [madeSgn2]; rfl) (fun v2 m2 => ?_)
    have bs := m2.blk
    have e2 := e7.trans m2.keep
    have l2 := e2.size
    replace fF := fF.ext m2.keep
    try replace ft := ft.ext m2.keep
    try replace fq := fq.ext m2.keep
    try replace br := br.keep m2.keep (by simp)
    refine AI ⟨Keep [w.heap.size] wd, fun _ e => e, e2.any, ?_⟩
    refine D_E rfl ?_
    refine AT (out := [AM [112], AM [111, 110, 101], .int .i64 2] ++ [f0, f1, f2, f3, f4] ++ ([AM [112], AM [116, 119, 111], .int .i64 1] ++ [t0, t1, t2, t3, t4]) ++ ([AM [113], AM [111, 110, 101], .int .i64 2] ++ [q0, q1, q2, q3, q4])) rfl (by omega) (by rw [madeReq3]; rfl) (fun v9 m9 => ?_)
    have br := m9.blk
    have e9 := e2.trans m9.keep
    have l9 := e9.size
    replace fF := fF.ext m9.keep
    replace ft := ft.ext m9.keep
    replace fq := fq.ext m9.keep
    try replace bs := bs.keep m9.keep (by simp)
    refine AI ⟨Keep [w.heap.size] wd, fun _ e => e, e9.any, ?_⟩
    ((apply D_R rfl rfl; (intro W hW; refine Ac (by rfl) (by rfl) ?_; exact AI ⟨rfl, rfl, rfl⟩)))
    refine D_E rfl ?_
    have sz := e9.size
    have ls : w.heap.size < v7.heap.size := by omega
    have lr : w.heap.size < v2.heap.size := by omega
    refine Aa (cs := [.slice (some ⟨v7.heap.size, 0, none⟩) 2 2, .slice (some ⟨v2.heap.size, 0, none⟩) 3 3]) rfl rfl rfl (Bj rfl) (b0.keep e9 (by simp)) (by simp) (fun vz pz => ?_)
    have bz : Blk vz w.heap.size 28 [.slice (some ⟨v7.heap.size, 0, none⟩) 2 2, .slice (some ⟨v2.heap.size, 0, none⟩) 3 3] := pz.blk
    have kz : Keep [w.heap.size] wd vz := (e9.any).trans pz.keep (fun _ h _ => h)
    refine AI ⟨Keep [w.heap.size] wd, fun _ e => e, kz, ?_⟩
    refine Ay ?_
    repeat refine nx rfl ?_
    refine A6 rfl rfl rfl bz.cells ⟨_, rfl, ?_, (n1.keep.trans k0).keep kz (by simp)⟩
    replace fF := (fF.keep pz.keep (fun b hb => by simpa using hb)).mono (ok' := BH) fun _ _ => trivial
    replace ft := (FAt.any (ok' := fun b => b ≠ w.heap.size) (w' := vz) ft rfl).mono (ok' := BH) fun _ _ => trivial
    replace fq := (FAt.any (ok' := fun b => b ≠ w.heap.size) (w' := vz) fq rfl).mono (ok' := BH) fun _ _ => trivial
    refine ⟨_, _, rfl, ⟨_, _, [Ce ⟨[114], true, 2⟩, Ce ⟨[103], false, 3⟩], rfl, ?_, ?_⟩, ⟨_, _, [[AM [112], AM [111, 110, 101], .int .i64 2] ++ [f0, f1, f2, f3, f4], [AM [112], AM [116, 119, 111], .int .i64 1] ++ [t0, t1, t2, t3, t4], [AM [113], AM [111, 110, 101], .int .i64 2] ++ [q0, q1, q2, q3, q4]], rfl, ?_, ?_⟩⟩
    ·exact ⟨_, _, rfl, Nat.le_refl _, by simp, (fun h => by cases h), .inr ⟨_, _, rfl, trivial, (bs.keep pz.keep (by simp; omega)).cells⟩⟩
    ·exact (RsAt.one (R := sgnR) rfl).app (RsAt.one (R := sgnR) rfl)
    ·exact ⟨_, _, rfl, Nat.le_refl _, by simp, (fun h => by cases h), .inr ⟨_, _, rfl, trivial, (br.keep pz.keep (by simp; omega)).cells⟩⟩
    ·exact ((RsAt.one (R := reqR) (c := [AM [112], AM [111, 110, 101], .int .i64 2] ++ [f0, f1, f2, f3, f4]) ⟨_, rfl, rfl, fF⟩).app (RsAt.one (R := reqR) (c := [AM [112], AM [116, 119, 111], .int .i64 1] ++ [t0, t1, t2, t3, t4]) ⟨_, rfl, rfl, ft⟩)).app (RsAt.one (R := reqR) (c := [AM [113], AM [111, 110, 101], .int .i64 2] ++ [q0, q1, q2, q3, q4]) ⟨_, rfl, rfl, fq⟩)
   ·refine D_E rfl ?_
    refine AT (out := [AM [112], AM [111, 110, 101], .int .i64 2] ++ [f0, f1, f2, f3, f4] ++ ([AM [112], AM [116, 119, 111], .int .i64 1] ++ [t0, t1, t2, t3, t4]) ++ ([AM [113], AM [111, 110, 101], .int .i64 2] ++ [q0, q1, q2, q3, q4])) rfl (by omega) (by rw [madeReq3]; rfl) (fun v9 m9 => ?_)
    have br := m9.blk
    have e9 := e7.trans m9.keep
    have l9 := e9.size
    replace fF := fF.ext m9.keep
    replace ft := ft.ext m9.keep
    replace fq := fq.ext m9.keep
    try replace bs := bs.keep m9.keep (by simp)
    refine AI ⟨Keep [w.heap.size] wd, fun _ e => e, e9.any, ?_⟩
    refine D_E rfl ?_
    refine AT (out := Ce ⟨[114], true, 2⟩ ++ Ce ⟨[103], false, 3⟩) rfl (by omega) (by rw [madeSgn2]; rfl) (fun v2 m2 => ?_)
    have bs := m2.blk
    have e2 := e9.trans m2.keep
    have l2 := e2.size
    replace fF := fF.ext m2.keep
    try replace ft := ft.ext m2.keep
    try replace fq := fq.ext m2.keep
    try replace br := br.keep m2.keep (by simp)
    refine AI ⟨Keep [w.heap.size] wd, fun _ e => e, e2.any, ?_⟩
    ((apply D_R rfl rfl; (intro W hW; refine Ac (by rfl) (by rfl) ?_; exact AI ⟨rfl, rfl, rfl⟩)))
    refine D_E rfl ?_
    have sz := e2.size
    have ls : w.heap.size < v9.heap.size := by omega
    have lr : w.heap.size < v7.heap.size := by omega
    refine Aa (cs := [.slice (some ⟨v9.heap.size, 0, none⟩) 2 2, .slice (some ⟨v7.heap.size, 0, none⟩) 3 3]) rfl rfl rfl (Bj rfl) (b0.keep e2 (by simp)) (by simp) (fun vz pz => ?_)
    have bz : Blk vz w.heap.size 28 [.slice (some ⟨v9.heap.size, 0, none⟩) 2 2, .slice (some ⟨v7.heap.size, 0, none⟩) 3 3] := pz.blk
    have kz : Keep [w.heap.size] wd vz := (e2.any).trans pz.keep (fun _ h _ => h)
    refine AI ⟨Keep [w.heap.size] wd, fun _ e => e, kz, ?_⟩
    refine Ay ?_
    repeat refine nx rfl ?_
    refine A6 rfl rfl rfl bz.cells ⟨_, rfl, ?_, (n1.keep.trans k0).keep kz (by simp)⟩
    replace fF := (fF.keep pz.keep (fun b hb => by simpa using hb)).mono (ok' := BH) fun _ _ => trivial
    replace ft := (FAt.any (ok' := fun b => b ≠ w.heap.size) (w' := vz) ft rfl).mono (ok' := BH) fun _ _ => trivial
    replace fq := (FAt.any (ok' := fun b => b ≠ w.heap.size) (w' := vz) fq rfl).mono (ok' := BH) fun _ _ => trivial
    refine ⟨_, _, rfl, ⟨_, _, [Ce ⟨[114], true, 2⟩, Ce ⟨[103], false, 3⟩], rfl, ?_, ?_⟩, ⟨_, _, [[AM [112], AM [111, 110, 101], .int .i64 2] ++ [f0, f1, f2, f3, f4], [AM [112], AM [116, 119, 111], .int .i64 1] ++ [t0, t1, t2, t3, t4], [AM [113], AM [111, 110, 101], .int .i64 2] ++ [q0, q1, q2, q3, q4]], rfl, ?_, ?_⟩⟩
    ·exact ⟨_, _, rfl, Nat.le_refl _, by simp, (fun h => by cases h), .inr ⟨_, _, rfl, trivial, (bs.keep pz.keep (by simp; omega)).cells⟩⟩
    ·exact (RsAt.one (R := sgnR) rfl).app (RsAt.one (R := sgnR) rfl)
    ·exact ⟨_, _, rfl, Nat.le_refl _, by simp, (fun h => by cases h), .inr ⟨_, _, rfl, trivial, (br.keep pz.keep (by simp; omega)).cells⟩⟩
    ·exact ((RsAt.one (R := reqR) (c := [AM [112], AM [111, 110, 101], .int .i64 2] ++ [f0, f1, f2, f3, f4]) ⟨_, rfl, rfl, fF⟩).app (RsAt.one (R := reqR) (c := [AM [112], AM [116, 119, 111], .int .i64 1] ++ [t0, t1, t2, t3, t4]) ⟨_, rfl, rfl, ft⟩)).app (RsAt.one (R := reqR) (c := [AM [113], AM [111, 110, 101], .int .i64 2] ++ [q0, q1, q2, q3, q4]) ⟨_, rfl, rfl, fq⟩)
end Go.Proofs.YtfcgdbmoncnibaaGreatDoor
namespace Go.Proofs.YtfcgdbmoncnibaaGreatDoor
set_option linter.unusedVariables false
variable {mk : Prop} [MK mk]
end Go.Proofs.YtfcgdbmoncnibaaGreatDoor
namespace Go.Proofs.YtfcgdbmoncnibaaGreatDoor
set_option linter.unusedVariables false
variable {mk : Prop} [MK mk]
inductive ReadL : List UInt8 → List BT → Prop
 | nil : ReadL [] []
 | gap {c : UInt8} {s : List UInt8} {bs : List BT} (h : c = 32 ∨ c = 10) (hr : ReadL s bs) : ReadL (c :: s) bs
 | tok {k : Int} {y s : List UInt8} {bs : List BT} (hy : 1 ≤ y.length) (hs : Bk (y ++ s) 0 [] = .ok (y.length, [⟨k, y, 0⟩])) (hr : ReadL s bs) : ReadL (y ++ s) ((k, y) :: bs)
theorem gap_step1 {c : UInt8} (h : c = 32 ∨ c = 10) (s : List UInt8) (ts : List Tok) : Bk (c :: s) 0 ts = .ok (1, ts) := by
 rcases h with rfl | rfl <;> rfl
theorem ReadL.det {s : List UInt8} {bs : List BT} (h : ReadL s bs) : ∀ {s' bs'}, ReadL s' bs' → s = s' → bs = bs' := by
 induction h with
 | nil =>
  intro s' bs' h' e
  cases h' with
  | nil => rfl
  | gap => cases e
  | tok hy => have := congrArg List.length e.symm; rw [List.length_append] at this; simp only [List.length_nil] at this; omega
 | gap hc hr ih =>
  intro s' bs' h' e
  cases h' with
  | nil => cases e
  | gap _ hr' => cases e; exact ih hr' rfl
  | tok hy hs =>
   rw [← e, gap_step1 hc] at hs
   simp at hs
 | tok hy hs hr ih =>
  intro s' bs' h' e
  cases h' with
  | nil => have := congrArg List.length e; rw [List.length_append] at this; simp only [List.length_nil] at this; omega
  | gap hc hr' =>
   rw [e, gap_step1 hc] at hs
   simp at hs
  | tok hy' hs' hr' =>
   rw [e, hs'] at hs
   simp only [Except.ok.injEq, Prod.mk.injEq, List.cons.injEq, Tok.mk.injEq, and_true] at hs
   obtain ⟨h1, rfl, rfl⟩ := hs
   rw [ih hr' (List.append_cancel_left e)]
def folB : Option UInt8 → Bool
 | none => true
 | some c => !(isLet c || A0 c || decide (c.toNat = 95))
theorem ReadL.sym {s : List UInt8} {bs : List BT} {y : List UInt8} (hy : 1 ≤ y.length) (hk : ∃ k, kindB (y.getD 0 0) = some (k + 4)) (hf : symsL.find? (DA (y ++ s)) = some y) (h : ReadL s bs) : ReadL (y ++ s) ((3, y) :: bs) := by
 refine .tok hy ?_ h
 obtain ⟨k, hk⟩ := hk
 unfold Bk
 have : (y ++ s).getD 0 0 = y.getD 0 0 := by
  cases y with
  | nil => simp at hy
  | cons c y => rfl
 rw [this, hk]
 show symM _ 0 [] = _
 unfold symM
 rw [List.drop_zero, hf]
 show addM _ 0 [] 3 (0 + y.length) = _
 unfold addM
 rw [if_neg (by simp), Nat.zero_add]
 simp
end Go.Proofs.YtfcgdbmoncnibaaGreatDoor
namespace Go.Proofs.YtfcgdbmoncnibaaGreatDoor
set_option linter.unusedVariables false
variable {mk : Prop} [MK mk]
structure Sty where
 sign : List UInt8
 level : Nat
 first : Nat
 next : Nat
 least : Nat
 most : Nat
 val : Nat
 bound : Nat
 usual : Nat
def many : Nat := 1099511627776
def styL : List (Int × Sty) := [
 (1, ⟨[116, 114, 117, 101], 5, 0, 0, 0, 0, 0, 0, 0⟩),
 (2, ⟨[102, 97, 108, 115, 101], 5, 0, 0, 0, 0, 0, 0, 0⟩),
 (3, ⟨[61], 5, 0, 0, 0, 0, 9999, 0, 1⟩),
 (4, ⟨[33], 4, 4, 0, 1, 1, 0, 0, 0⟩),
 (5, ⟨[32, 38, 32], 2, 3, 3, 2, many, 0, 0, 0⟩),
 (6, ⟨[32, 124, 32], 1, 2, 2, 2, many, 0, 0, 0⟩),
 (7, ⟨[32, 45, 62, 32], 0, 1, 0, 2, 2, 0, 0, 0⟩),
 (8, ⟨[88, 32], 4, 4, 0, 1, 1, 0, 0, 0⟩),
 (9, ⟨[32, 85, 32], 3, 4, 3, 2, 2, 0, 0, 0⟩),
 (10, ⟨[32, 82, 32], 3, 4, 3, 2, 2, 0, 0, 0⟩),
 (11, ⟨[70, 32], 4, 4, 0, 1, 1, 0, 0, 0⟩),
 (12, ⟨[71, 32], 4, 4, 0, 1, 1, 0, 0, 0⟩),
 (13, ⟨[70, 91], 4, 4, 0, 1, 1, 0, 9999, 0⟩),
 (14, ⟨[71, 91], 4, 4, 0, 1, 1, 0, 9999, 0⟩),
 (15, ⟨[89, 32], 4, 4, 0, 1, 1, 1, 0, 0⟩),
 (16, ⟨[32, 83], 3, 4, 3, 2, 2, 9999, 0, 0⟩),
 (17, ⟨[32, 84], 3, 4, 3, 2, 2, 9999, 0, 1⟩),
 (18, ⟨[79, 32], 4, 4, 0, 1, 1, 0, 0, 0⟩),
 (19, ⟨[72, 32], 4, 4, 0, 1, 1, 0, 0, 0⟩)]
def BB (op : Int) : Option Sty := styL.lookup op
def BW (op : Int) : Sty := (BB op).getD ⟨[], 4, 0, 0, 0, 0, 0, 0, 0⟩
def digs (n : Nat) : List UInt8 := if n < 10 then [UInt8.ofNat (48 + n)] else digs (n / 10) ++ [UInt8.ofNat (48 + n % 10)]
def DJ (n : Int) : List UInt8 := digs n.toNat
def sgT (op : Int) (nm : List UInt8) (v b : Int) : List UInt8 :=
 if op = 3 then (if v = 1 then nm else nm ++ [61] ++ DJ v)
 else if op = 13 ∨ op = 14 then (BW op).sign ++ DJ b ++ [93, 32]
 else if op = 15 then (if v = 0 then [89, 32] else [90, 32])
 else if op = 16 ∨ op = 17 then (if v = ((BW op).usual : Int) then (BW op).sign ++ [32] else (BW op).sign ++ [91] ++ DJ v ++ [93, 32])
 else (BW op).sign
def wrapT (b : Bool) (s : List UInt8) : List UInt8 := if b then [40] ++ (s ++ [41]) else s
mutual
def prF : Nat → Fml → List UInt8
 | n, .mk op nm v b args => wrapT (decide ((BW op).level < n)) (prA (BW op).first (BW op).next (sgT op nm v b) args)
def prA : Nat → Nat → List UInt8 → List Fml → List UInt8
 | _, _, sg, [] => sg
 | first, next, sg, a :: l => (if l.isEmpty then sg else []) ++ (prF first a ++ prR next sg l)
def prR : Nat → List UInt8 → List Fml → List UInt8
 | _, _, [] => []
 | next, sg, a :: l => sg ++ (prF next a ++ prR next sg l)
end
def Bq (op : Int) (nm : List UInt8) (v b : Int) (n : Nat) : Bool := match BB op with
 | none => false
 | some s => decide (s.least ≤ n ∧ n ≤ s.most ∧ 0 ≤ v ∧ v ≤ (s.val : Int) ∧ 0 ≤ b ∧ b ≤ (s.bound : Int)) && (if op = 3 then BS nm else nm.isEmpty)
mutual
def okF : Fml → Bool
 | .mk op nm v b args => Bq op nm v b args.length && okL args
def okL : List Fml → Bool
 | [] => true
 | a :: l => okF a && okL l
end
def sgK (op : Int) (nm : List UInt8) (v b : Int) : List BT :=
 if op = 1 then [(1, [116, 114, 117, 101])] else if op = 2 then [(1, [102, 97, 108, 115, 101])]
 else if op = 3 then (1, nm) :: (if v = 1 then [] else [(3, [61]), (2, DJ v)])
 else if op = 4 then [(3, [33])] else if op = 5 then [(3, [38])] else if op = 6 then [(3, [124])] else if op = 7 then [(3, [45, 62])]
 else if op = 8 then [(1, [88])] else if op = 9 then [(1, [85])] else if op = 10 then [(1, [82])] else if op = 11 then [(1, [70])] else if op = 12 then [(1, [71])]
 else if op = 13 then [(1, [70]), (3, [91]), (2, DJ b), (3, [93])] else if op = 14 then [(1, [71]), (3, [91]), (2, DJ b), (3, [93])]
 else if op = 15 then (if v = 0 then [(1, [89])] else [(1, [90])])
 else if op = 16 then (1, [83]) :: (if v = 0 then [] else [(3, [91]), (2, DJ v), (3, [93])])
 else if op = 17 then (1, [84]) :: (if v = 1 then [] else [(3, [91]), (2, DJ v), (3, [93])])
 else if op = 18 then [(1, [79])] else [(1, [72])]
def wrapK (b : Bool) (s : List BT) : List BT := if b then (3, [40]) :: (s ++ [(3, [41])]) else s
mutual
def tkF : Nat → Fml → List BT
 | n, .mk op nm v b args => wrapK (decide ((BW op).level < n)) (tkA (BW op).first (BW op).next (sgK op nm v b) args)
def tkA : Nat → Nat → List BT → List Fml → List BT
 | _, _, sg, [] => sg
 | first, next, sg, a :: l => (if l.isEmpty then sg else []) ++ (tkF first a ++ tkR next sg l)
def tkR : Nat → List BT → List Fml → List BT
 | _, _, [] => []
 | next, sg, a :: l => sg ++ (tkF next a ++ tkR next sg l)
end
theorem CL {n : Nat} (h : n < 10) : digs n = [UInt8.ofNat (48 + n)] := by rw [digs, if_pos h]
theorem digs_big {n : Nat} (h : 10 ≤ n) : digs n = digs (n / 10) ++ [UInt8.ofNat (48 + n % 10)] := by rw [digs, if_neg (by omega)]
theorem dig_byte {k : Nat} (h : k < 10) : (UInt8.ofNat (48 + k)).toNat = 48 + k := by simp; omega
theorem digs_dig : ∀ (m n : Nat), n ≤ m → ∀ c ∈ digs n, A0 c = true
 | 0, n, h, c, hc => by
  rw [CL (by omega)] at hc
  simp only [List.mem_singleton] at hc
  subst hc
  simp only [A0, dig_byte (show n < 10 by omega)]
  simp; omega
 | m + 1, n, h, c, hc => by
  by_cases h1 : n < 10
  ·rw [CL h1] at hc
   simp only [List.mem_singleton] at hc
   subst hc
   simp only [A0, dig_byte h1]
   simp; omega
  ·rw [digs_big (by omega)] at hc
   rcases List.mem_append.1 hc with hc | hc
   ·exact digs_dig m (n / 10) (by omega) c hc
   ·simp only [List.mem_singleton] at hc
    subst hc
    simp only [A0, dig_byte (show n % 10 < 10 by omega)]
    simp; omega
theorem digs_pos (n : Nat) : 1 ≤ (digs n).length := by
 rw [digs]; split <;> simp
theorem digs_len {n : Nat} (h : n ≤ 9999) : (digs n).length ≤ 4 := by
 by_cases h1 : n < 10
 ·rw [CL h1]; simp
 rw [digs_big (by omega)]
 by_cases h2 : n / 10 < 10
 ·rw [CL h2]; simp
 rw [digs_big (by omega)]
 by_cases h3 : n / 10 / 10 < 10
 ·rw [CL h3]; simp
 rw [digs_big (by omega)]
 rw [CL (by omega)]; simp
theorem getD_left {a b : List UInt8} {i : Nat} (h : i < a.length) : (a ++ b).getD i 0 = a.getD i 0 := by
 simp [List.getD_eq_getElem?_getD, List.getElem?_append_left h]
theorem digs_head : ∀ (m n : Nat), n ≤ m → 10 ≤ n → ((digs n).getD 0 0).toNat ≠ 48
 | 0, n, h, h1 => by omega
 | m + 1, n, h, h1 => by
  rw [digs_big h1]
  by_cases h2 : n / 10 < 10
  ·rw [CL h2]
   show (UInt8.ofNat (48 + n / 10)).toNat ≠ 48
   rw [dig_byte h2]; omega
  ·have hp := digs_pos (n / 10)
   have := digs_head m (n / 10) (by omega) (by omega)
   rw [getD_left (by omega)]
   exact this
end Go.Proofs.YtfcgdbmoncnibaaGreatDoor
namespace Go.Proofs.YtfcgdbmoncnibaaGreatDoor
set_option linter.unusedVariables false
variable {mk : Prop} [MK mk]
theorem lookup_key {β : Type} {a : Int} {b : β} : ∀ {l : List (Int × β)}, l.lookup a = some b → a ∈ l.map (·.1)
 | [], h => by cases h
 | (k, v) :: l, h => by
  rw [List.lookup_cons] at h
  by_cases hk : a = k
  ·simp [hk]
  ·rw [show (a == k) = false by simpa using hk] at h
   have := lookup_key (l := l) h
   simp only [List.map_cons, List.mem_cons]
   exact .inr this
theorem op_cases {op : Int} {s : Sty} (h : BB op = some s) : op = 1 ∨ op = 2 ∨ op = 3 ∨ op = 4 ∨ op = 5 ∨ op = 6 ∨ op = 7 ∨ op = 8 ∨ op = 9 ∨ op = 10 ∨ op = 11 ∨ op = 12 ∨ op = 13 ∨ op = 14 ∨ op = 15 ∨ op = 16 ∨ op = 17 ∨ op = 18 ∨ op = 19 := by
 have := lookup_key h
 simpa [styL] using this
theorem node_parts {op v b : Int} {nm : List UInt8} {n : Nat} (h : Bq op nm v b n = true) : ∃ s, BB op = some s ∧ s.least ≤ n ∧ n ≤ s.most ∧ 0 ≤ v ∧ v ≤ (s.val : Int) ∧ 0 ≤ b ∧ b ≤ (s.bound : Int) ∧ (op = 3 → BS nm = true) ∧ (op ≠ 3 → nm = []) := by
 unfold Bq at h
 cases hs : BB op with
 | none => rw [hs] at h; cases h
 | some s =>
  rw [hs] at h
  simp only [Bool.and_eq_true, decide_eq_true_eq] at h
  obtain ⟨⟨h1, h2, h3, h4, h5, h6⟩, h7⟩ := h
  refine ⟨s, rfl, h1, h2, h3, h4, h5, h6, fun e => ?_, fun e => ?_⟩
  ·rw [if_pos e] at h7; exact h7
  ·rw [if_neg e] at h7; simpa using h7
theorem kind_low : ∀ c : UInt8, BK c = true → kindB c = some 2 := by
 intro c h
 have : c.toNat ∈ (List.range 26).map (· + 97) := by simp [BK] at h; simp; exact ⟨c.toNat - 97, by omega, by omega⟩
 have e : c = UInt8.ofNat c.toNat := by simp
 rw [e]
 revert this
 generalize c.toNat = n
 intro hn
 simp only [List.range, List.range.loop, List.map_cons, List.map_nil, List.mem_cons, List.not_mem_nil, or_false] at hn
 rcases hn with rfl | rfl | rfl | rfl | rfl | rfl | rfl | rfl | rfl | rfl | rfl | rfl | rfl | rfl | rfl | rfl | rfl | rfl | rfl | rfl | rfl | rfl | rfl | rfl | rfl | rfl <;> rfl
theorem kind_dig : ∀ c : UInt8, A0 c = true → kindB c = some 3 := by
 intro c h
 have : c.toNat ∈ (List.range 10).map (· + 48) := by simp [A0] at h; simp; exact ⟨c.toNat - 48, by omega, by omega⟩
 have e : c = UInt8.ofNat c.toNat := by simp
 rw [e]
 revert this
 generalize c.toNat = n
 intro hn
 simp only [List.range, List.range.loop, List.map_cons, List.map_nil, List.mem_cons, List.not_mem_nil, or_false] at hn
 rcases hn with rfl | rfl | rfl | rfl | rfl | rfl | rfl | rfl | rfl | rfl <;> rfl
theorem takeW_app {p : UInt8 → Bool} {u : List UInt8} (hu : ∀ c, u.head? = some c → p c = false) : ∀ s : List UInt8, s.all p = true → (s ++ u).takeWhile p = s
 | [], _ => by
  cases u with
  | nil => rfl
  | cons c u => simp [hu c rfl]
 | c :: s, h => by
  simp only [List.all_cons, Bool.and_eq_true] at h
  rw [List.cons_append, List.takeWhile_cons, if_pos h.1, takeW_app hu s h.2]
theorem fol_name {u : List UInt8} (h : folB u.head? = true) : ∀ c, u.head? = some c → CA c = false := by
 intro c hc
 rw [hc] at h
 simp only [folB, isLet, CA, Bool.not_eq_true', Bool.or_eq_false_iff] at h ⊢
 exact ⟨⟨h.1.1.1, h.1.2⟩, h.2⟩
theorem fol_dig {u : List UInt8} (h : folB u.head? = true) : ∀ c, u.head? = some c → A0 c = false ∧ isLet c = false ∧ c.toNat ≠ 95 := by
 intro c hc
 rw [hc] at h
 simp only [folB, Bool.not_eq_true', Bool.or_eq_false_iff, decide_eq_false_iff_not] at h
 exact ⟨h.1.2, h.1.1, h.2⟩
theorem Ba {nm : List UInt8} (hn : BS nm = true) : 1 ≤ nm.length ∧ nm.length ≤ 12 ∧ BK (nm.getD 0 0) = true ∧ nm.all CA = true ∧ nm ∉ keysL := by
 simp only [BS, Bool.and_eq_true, decide_eq_true_eq, Bool.not_eq_true', decide_eq_false_iff_not] at hn
 exact ⟨hn.1.1.1.1, hn.1.1.1.2, hn.1.1.2, hn.1.2, hn.2⟩
theorem word_step {nm u : List UInt8} (h1 : 1 ≤ nm.length) (h2 : nm.length ≤ 12) (h3 : BK (nm.getD 0 0) = true) (h4 : nm.all CA = true) (hu : folB u.head? = true) : Bk (nm ++ u) 0 [] = .ok (nm.length, [⟨1, nm, 0⟩]) := by
 cases nm with
 | nil => simp at h1
 | cons c s =>
  have h4 : s.all CA = true := by
   simp only [List.all_cons, Bool.and_eq_true] at h4
   exact h4.2
  have e : A2 CA (c :: s ++ u) (0 + 1) = s.length + 1 := by
   show 0 + 1 + ((s ++ u).takeWhile CA).length = _
   rw [takeW_app (fol_name hu) s h4]; omega
  unfold Bk
  rw [show (c :: s ++ u).getD 0 0 = c from rfl, kind_low c h3]
  show nameM _ 0 [] = _
  unfold nameM
  simp only [List.length_cons] at h2
  rw [e, if_neg (by omega)]
  unfold addM
  rw [if_neg (by simp)]
  simp
theorem num_step {n : Nat} {u : List UInt8} (hn : n ≤ 9999) (hu : folB u.head? = true) : Bk (digs n ++ u) 0 [] = .ok ((digs n).length, [⟨2, digs n, 0⟩]) := by
 have hp := digs_pos n
 have hl := digs_len hn
 have hd := digs_dig n n (Nat.le_refl _)
 have hall : (digs n).all A0 = true := List.all_eq_true.2 hd
 have hg : (digs n ++ u).getD 0 0 = (digs n).getD 0 0 := getD_left (by omega)
 have h0 : A0 ((digs n).getD 0 0) = true := by
  rw [List.getD_eq_getElem?_getD, List.getElem?_eq_getElem (by omega)]
  exact hd _ (List.getElem_mem _)
 have e : A2 A0 (digs n ++ u) 0 = (digs n).length := by
  show 0 + ((digs n ++ u).takeWhile A0).length = _
  rw [takeW_app (fun c hc => (fol_dig hu c hc).1) _ hall]; omega
 have hb : Bh (digs n ++ u) 0 = false := by
  unfold Bh
  rw [e, hg]
  simp only [Bool.or_eq_false_iff, Bool.and_eq_false_iff, decide_eq_false_iff_not]
  refine ⟨⟨by omega, ?_⟩, ?_⟩
  ·by_cases h10 : n < 10
   ·left; rw [CL h10]; simp
   ·right; exact digs_head n n (Nat.le_refl _) (by omega)
  ·cases u with
   | nil => left; simp
   | cons c u =>
    right
    have hc : (digs n ++ c :: u).getD (digs n).length 0 = c := by simp [List.getD_eq_getElem?_getD]
    rw [hc]
    obtain ⟨_, h1, h2⟩ := fol_dig hu c rfl
    exact ⟨h1, h2⟩
 unfold Bk
 rw [hg, kind_dig _ h0]
 show numM _ 0 [] = _
 unfold numM
 rw [hb, e]
 show addM _ 0 [] 2 _ = _
 unfold addM
 rw [if_neg (by simp)]
 simp
theorem ReadL.name {nm s : List UInt8} {bs : List BT} (hn : BS nm = true) (h : ReadL s bs) (hs : folB s.head? = true) : ReadL (nm ++ s) ((1, nm) :: bs) := by
 obtain ⟨h1, h2, h3, h4, _⟩ := Ba hn
 exact .tok h1 (word_step h1 h2 h3 h4 hs) h
theorem ReadL.num {n : Int} {s : List UInt8} {bs : List BT} (hn : n ≤ 9999) (h : ReadL s bs) (hs : folB s.head? = true) : ReadL (DJ n ++ s) ((2, DJ n) :: bs) :=
 .tok (digs_pos _) (num_step (by omega) hs) h
theorem ReadL.one {c : UInt8} {s : List UInt8} {bs : List BT} (hc : c = 40 ∨ c = 41 ∨ c = 91 ∨ c = 93 ∨ c = 59 ∨ c = 58 ∨ c = 123 ∨ c = 125 ∨ c = 124 ∨ c = 38 ∨ c = 61) (h : ReadL s bs) : ReadL (c :: s) ((3, [c]) :: bs) := by
 refine ReadL.sym (y := [c]) (by simp) ?_ ?_ h
 ·rcases hc with rfl | rfl | rfl | rfl | rfl | rfl | rfl | rfl | rfl | rfl | rfl <;> exact ⟨0, rfl⟩
 ·rcases hc with rfl | rfl | rfl | rfl | rfl | rfl | rfl | rfl | rfl | rfl | rfl <;> simp [symsL, DA]
theorem ReadL.imp {s : List UInt8} {bs : List BT} (h : ReadL s bs) : ReadL (45 :: 62 :: s) ((3, [45, 62]) :: bs) := ReadL.sym (y := [45, 62]) (by simp) ⟨0, rfl⟩ (by simp [symsL, DA]) h
theorem ReadL.not {s : List UInt8} {bs : List BT} (h : ReadL s bs) (hs : s.head? ≠ some 61) : ReadL (33 :: s) ((3, [33]) :: bs) := by
 refine ReadL.sym (y := [33]) (by simp) ⟨0, rfl⟩ ?_ h
 cases s with
 | nil => simp [symsL, DA]
 | cons c s =>
  have hc : c ≠ 61 := fun e => hs (by rw [e]; rfl)
  simp [symsL, DA, hc]
theorem ReadL.big {c : UInt8} {d : UInt8} {s : List UInt8} {bs : List BT} (hc : c ∈ [88, 89, 90, 79, 72, 70, 71, 85, 82, 83, 84]) (hd : d = 32 ∨ d = 91) (h : ReadL (d :: s) bs) : ReadL (c :: d :: s) ((1, [c]) :: bs) := by
 refine .tok (y := [c]) (by simp) ?_ h
 simp only [List.mem_cons, List.not_mem_nil, or_false] at hc
 rcases hc with rfl | rfl | rfl | rfl | rfl | rfl | rfl | rfl | rfl | rfl | rfl <;> rcases hd with rfl | rfl <;> rfl
theorem ReadL.index {v : Int} {s : List UInt8} {bs : List BT} (hv : v ≤ 9999) (h : ReadL s bs) : ReadL (91 :: (DJ v ++ 93 :: 32 :: s)) ((3, [91]) :: (2, DJ v) :: (3, [93]) :: bs) :=
 ReadL.one (by simp) (ReadL.num hv (ReadL.one (by simp) (ReadL.gap (.inl rfl) h)) rfl)
def Fol (s : List UInt8) : Prop := folB s.head? = true ∧ s.head? ≠ some 61
theorem fol_blank (s : List UInt8) : Fol (32 :: s) := ⟨rfl, by simp⟩
theorem small_ne {nm s : List UInt8} (h1 : 1 ≤ nm.length) (h : BK (nm.getD 0 0) = true) : (nm ++ s).head? ≠ some 61 := by
 cases nm with
 | nil => simp at h1
 | cons c nm =>
  intro e
  simp only [List.cons_append, List.head?_cons, Option.some.injEq] at e
  subst e
  exact absurd (show BK 61 = true from h) (by decide)
theorem sign_reads {op v b : Int} {nm : List UInt8} {n : Nat} (h : Bq op nm v b n = true) {s : List UInt8} {bs : List BT} (hr : ReadL s bs) (hs : n = 0 → folB s.head? = true) (he : s.head? ≠ some 61) :
  ReadL (sgT op nm v b ++ s) (sgK op nm v b ++ bs) ∧ (sgT op nm v b ++ s).head? ≠ some 61 ∧ (2 ≤ n → Fol (sgT op nm v b ++ s)) := by
 obtain ⟨st, hst, h1, h2, h3, h4, h5, h6, h7, h8⟩ := node_parts h
 have hb : ∀ {t : List UInt8} {c : List BT}, ReadL t c → ReadL (32 :: t) c := fun q => ReadL.gap (.inl rfl) q
 rcases op_cases hst with rfl | rfl | rfl | rfl | rfl | rfl | rfl | rfl | rfl | rfl | rfl | rfl | rfl | rfl | rfl | rfl | rfl | rfl | rfl <;> simp [BB, styL, List.lookup] at hst <;> subst hst <;> simp only at h1 h2 h4 h6
 ·have hs := hs (by omega)
  exact ⟨.tok (y := [116, 114, 117, 101]) (by simp) (word_step (by simp) (by simp) (by decide) (by decide) hs) hr, by simp [sgT, BW, BB, styL, List.lookup], fun _ => by omega⟩
 ·have hs := hs (by omega)
  exact ⟨.tok (y := [102, 97, 108, 115, 101]) (by simp) (word_step (by simp) (by simp) (by decide) (by decide) hs) hr, by simp [sgT, BW, BB, styL, List.lookup], fun _ => by omega⟩
 ·have hs := hs (by omega)
  have hn := h7 rfl
  obtain ⟨n1, _, n3, _⟩ := Ba hn
  by_cases hv : v = 1
  ·refine ⟨?_, ?_, fun _ => by omega⟩
   ·simp only [sgT, sgK, if_pos hv]
    exact ReadL.name hn hr hs
   ·rw [show sgT 3 nm v b = nm by simp [sgT, hv]]
    exact small_ne n1 n3
  ·refine ⟨?_, ?_, fun _ => by omega⟩
   ·simp only [sgT, sgK, if_neg hv]
    have := ReadL.name hn (ReadL.one (c := 61) (by simp) (ReadL.num (n := v) (by omega) hr hs)) rfl
    simpa using this
   ·rw [show sgT 3 nm v b = nm ++ [61] ++ DJ v by simp [sgT, hv], List.append_assoc, List.append_assoc]
    exact small_ne n1 n3
 ·exact ⟨ReadL.not hr he, by simp [sgT, BW, BB, styL, List.lookup], fun _ => by omega⟩
 ·exact ⟨hb (ReadL.one (by simp) (hb hr)), by simp [sgT, BW, BB, styL, List.lookup], fun _ => fol_blank _⟩
 ·exact ⟨hb (ReadL.one (by simp) (hb hr)), by simp [sgT, BW, BB, styL, List.lookup], fun _ => fol_blank _⟩
 ·exact ⟨hb (ReadL.imp (hb hr)), by simp [sgT, BW, BB, styL, List.lookup], fun _ => fol_blank _⟩
 ·exact ⟨ReadL.big (by simp) (.inl rfl) (hb hr), by simp [sgT, BW, BB, styL, List.lookup], fun _ => by omega⟩
 ·exact ⟨hb (ReadL.big (by simp) (.inl rfl) (hb hr)), by simp [sgT, BW, BB, styL, List.lookup], fun _ => fol_blank _⟩
 ·exact ⟨hb (ReadL.big (by simp) (.inl rfl) (hb hr)), by simp [sgT, BW, BB, styL, List.lookup], fun _ => fol_blank _⟩
 ·exact ⟨ReadL.big (by simp) (.inl rfl) (hb hr), by simp [sgT, BW, BB, styL, List.lookup], fun _ => by omega⟩
 ·exact ⟨ReadL.big (by simp) (.inl rfl) (hb hr), by simp [sgT, BW, BB, styL, List.lookup], fun _ => by omega⟩
 ·refine ⟨?_, by simp [sgT, BW, BB, styL, List.lookup], fun _ => by omega⟩
  have := ReadL.big (c := 70) (by simp) (.inr rfl) (ReadL.index (v := b) (by omega) hr)
  simpa [sgT, sgK, BW, BB, styL, List.lookup] using this
 ·refine ⟨?_, by simp [sgT, BW, BB, styL, List.lookup], fun _ => by omega⟩
  have := ReadL.big (c := 71) (by simp) (.inr rfl) (ReadL.index (v := b) (by omega) hr)
  simpa [sgT, sgK, BW, BB, styL, List.lookup] using this
 ·by_cases hv : v = 0
  ·simp only [sgT, sgK, if_pos hv]
   exact ⟨ReadL.big (by simp) (.inl rfl) (hb hr), by simp, fun _ => by omega⟩
  ·simp only [sgT, sgK, if_neg hv]
   exact ⟨ReadL.big (by simp) (.inl rfl) (hb hr), by simp, fun _ => by omega⟩
 ·by_cases hv : v = 0
  ·subst hv
   exact ⟨hb (ReadL.big (c := 83) (by simp) (.inl rfl) (hb hr)), by simp [sgT, BW, BB, styL, List.lookup], fun _ => fol_blank _⟩
  ·have := hb (ReadL.big (c := 83) (by simp) (.inr rfl) (ReadL.index (v := v) (by omega) hr))
   refine ⟨?_, by simp [sgT, BW, BB, styL, List.lookup, hv], fun _ => ?_⟩
   ·simpa [sgT, sgK, BW, BB, styL, List.lookup, hv] using this
   ·simp only [Fol, sgT, BW, BB, styL, List.lookup]
    simp [hv, folB, isLet, BK, isUp, A0]
 ·by_cases hv : v = 1
  ·subst hv
   exact ⟨hb (ReadL.big (c := 84) (by simp) (.inl rfl) (hb hr)), by simp [sgT, BW, BB, styL, List.lookup], fun _ => fol_blank _⟩
  ·have := hb (ReadL.big (c := 84) (by simp) (.inr rfl) (ReadL.index (v := v) (by omega) hr))
   refine ⟨?_, by simp [sgT, BW, BB, styL, List.lookup, hv], fun _ => ?_⟩
   ·simpa [sgT, sgK, BW, BB, styL, List.lookup, hv] using this
   ·simp only [Fol, sgT, BW, BB, styL, List.lookup]
    simp [hv, folB, isLet, BK, isUp, A0]
 ·exact ⟨ReadL.big (by simp) (.inl rfl) (hb hr), by simp [sgT, BW, BB, styL, List.lookup], fun _ => by omega⟩
 ·exact ⟨ReadL.big (by simp) (.inl rfl) (hb hr), by simp [sgT, BW, BB, styL, List.lookup], fun _ => by omega⟩
def ReadsF (f : Fml) : Prop := ∀ (n : Nat) (s : List UInt8) (bs : List BT), ReadL s bs → Fol s → ReadL (prF n f ++ s) (tkF n f ++ bs) ∧ (prF n f ++ s).head? ≠ some 61
theorem okL_mem : ∀ {l : List Fml}, okL l = true → ∀ a ∈ l, okF a = true
 | [], _, a, h => by cases h
 | c :: l, h, a, ha => by
  simp only [okL, Bool.and_eq_true] at h
  rcases List.mem_cons.1 ha with rfl | ha
  ·exact h.1
  ·exact okL_mem h.2 a ha
theorem rest_readsF {op v b : Int} {nm : List UInt8} {k : Nat} (h : Bq op nm v b k = true) (hk : 2 ≤ k) (next : Nat) : ∀ (l : List Fml), (∀ a ∈ l, ReadsF a) → ∀ (s : List UInt8) (bs : List BT), ReadL s bs → Fol s → ReadL (prR next (sgT op nm v b) l ++ s) (tkR next (sgK op nm v b) l ++ bs) ∧ Fol (prR next (sgT op nm v b) l ++ s)
 | [], _, s, bs, hr, hs => ⟨hr, hs⟩
 | a :: l, hl, s, bs, hr, hs => by
  obtain ⟨r1, f1⟩ := rest_readsF h hk next l (fun c hc => hl c (by simp [hc])) s bs hr hs
  obtain ⟨r2, f2⟩ := hl a (by simp) next _ _ r1 f1
  obtain ⟨r3, _, f3⟩ := sign_reads h r2 (fun h0 => by omega) f2
  simp only [prR, tkR, List.append_assoc]
  exact ⟨r3, f3 hk⟩
theorem body_reads {op v b : Int} {nm : List UInt8} {args : List Fml} (h : Bq op nm v b args.length = true) (first next : Nat) (hl : ∀ a ∈ args, ReadsF a) {s : List UInt8} {bs : List BT} (hr : ReadL s bs) (hs : Fol s) :
  ReadL (prA first next (sgT op nm v b) args ++ s) (tkA first next (sgK op nm v b) args ++ bs) ∧ (prA first next (sgT op nm v b) args ++ s).head? ≠ some 61 := by
 match args, h, hl with
 | [], h, hl =>
  obtain ⟨r3, f3, _⟩ := sign_reads h hr (fun _ => hs.1) hs.2
  simp only [prA, tkA]
  exact ⟨r3, f3⟩
 | [a], h, hl =>
  obtain ⟨r2, f2⟩ := hl a (by simp) first _ _ hr hs
  obtain ⟨r3, f3, _⟩ := sign_reads h r2 (fun h0 => by simp at h0) f2
  simp only [prA, tkA, prR, tkR, List.isEmpty_nil, if_pos, List.append_assoc, List.append_nil, List.nil_append]
  exact ⟨r3, f3⟩
 | a :: c :: l, h, hl =>
  obtain ⟨r1, f1⟩ := rest_readsF h (by simp) next (c :: l) (fun d hd => hl d (by simp at hd; simp [hd])) s bs hr hs
  obtain ⟨r2, f2⟩ := hl a (by simp) first _ _ r1 f1
  have e : (c :: l).isEmpty = false := rfl
  simp only [prA, tkA, e, Bool.false_eq_true, if_false, List.append_assoc, List.nil_append]
  exact ⟨r2, f2⟩
theorem readsF : ∀ (m : Nat) (f : Fml), SizeOf.sizeOf f ≤ m → okF f = true → ReadsF f
 | 0, f, hm, _ => by cases f; simp at hm
 | m + 1, .mk op nm v b args, hm, hok => by
  simp only [okF, Bool.and_eq_true] at hok
  have hl : ∀ a ∈ args, ReadsF a := fun a ha => readsF m a (by have := List.sizeOf_lt_of_mem ha; simp at hm; omega) (okL_mem hok.2 a ha)
  intro n s bs hr hs
  simp only [prF, tkF]
  by_cases hlv : (BW op).level < n
  ·rw [decide_eq_true hlv]
   obtain ⟨r1, _⟩ := body_reads hok.1 (BW op).first (BW op).next hl (ReadL.one (c := 41) (by simp) hr) ⟨rfl, by simp⟩
   have := ReadL.one (c := 40) (by simp) r1
   refine ⟨?_, by simp [wrapT]⟩
   simpa [wrapT, wrapK] using this
  ·rw [decide_eq_false hlv]
   exact body_reads hok.1 (BW op).first (BW op).next hl hr hs
end Go.Proofs.YtfcgdbmoncnibaaGreatDoor
namespace Go.Proofs.YtfcgdbmoncnibaaGreatDoor
open Go.RowKit
variable {mk : Prop} [MK mk]
open Go.ChangeMaps (setBlock)
attribute [local semireducible] WC AU Bv BQ Bx Cr C5 Bp
variable {P : Program} {all : Array Oper} {Z : Fr → DS → List PanicEntry → World → Prop} {K : Fr → DS → World → Prop} {rest : List Oper} {f : Fr} {ds : DS} {w : World}
 {d : Nat} {ty : TypeId} {pos : String} {af : Array Edge}
class VMapT (P : Program) (T : TypeId) (z : outParam Value) : Prop where
 out : ∃ kt et i, P.underlying T = some (.map kt et) ∧ P.underlying kt = some (.int .i64) ∧ P.info? et = some i ∧ i.zero = some z
theorem vmapT_of {T kt et : TypeId} {z : Value} (h1 : P.underlying T = some (.map kt et)) (h2 : P.underlying kt = some (.int .i64)) (h3 : (P.info? et).map (·.zero) = some (some z)) : VMapT P T z := by
 obtain ⟨i, hi, hz⟩ := Option.map_eq_some_iff.1 h3
 exact ⟨kt, et, i, h1, h2, hi, hz⟩
def encV (p : Int × Value) : Value × Value := (.int .i64 p.1, p.2)
theorem intK_inj {a b : Int} (h : Value.int .i64 a = Value.int .i64 b) : a = b := by simpa using h
def rdV (e : MapEntry) : Value × Value := (e.key, e.val)
def VMap (w : World) (r : Nat) (L : List (Int × Value)) : Prop :=
 ∃ es clock, w.heap[r]? = some (.map es clock) ∧ MapKept.Stamped es clock ∧ es.toList.map rdV = L.map encV
theorem VMap.lt {r : Nat} {L : List (Int × Value)} (h : VMap w r L) : r < w.heap.size := by
 obtain ⟨es, c, h1, _⟩ := h; exact (Array.getElem?_eq_some_iff.1 h1).1
theorem VMap.keep {X : List Nat} {w' : World} {r : Nat} {L : List (Int × Value)} (h : VMap w r L) (k : Keep X w w') (hr : r ∉ X) : VMap w' r L := by
 obtain ⟨es, c, h1, h2, h3⟩ := id h
 exact ⟨es, c, (k.block r h.lt hr).trans h1, h2, h3⟩
theorem keys_vint {es : List MapEntry} {L : List (Int × Value)} (h : es.map rdV = L.map encV) : ∀ x ∈ es, MapKept.IsKey (.int .i64) x.key := by
 intro x hx
 have : rdV x ∈ L.map encV := by rw [← h]; exact List.mem_map.2 ⟨x, hx, rfl⟩
 obtain ⟨p, _, e⟩ := List.mem_map.1 this
 have : x.key = Value.int .i64 p.1 := (congrArg Prod.fst e).symm
 rw [this]; trivial
theorem vlookup_none {L : List (Int × Value)} {x : Int} (h : ∀ p ∈ L, p.1 ≠ x) : L.lookup x = none := by
 induction L with
 | nil => rfl
 | cons q L ih =>
  obtain ⟨a, b⟩ := q
  have ha : x ≠ a := fun e => h (a, b) (by simp) e.symm
  rw [List.lookup_cons, beq_false_of_ne ha]
  exact ih fun p hp => h p (by simp [hp])
theorem vlookup_at {L : List (Int × Value)} (hn : (L.map (·.1)).Nodup) {p : Int × Value} (hp : p ∈ L) : L.lookup p.1 = some p.2 := by
 induction L with
 | nil => cases hp
 | cons q L ih =>
  simp only [List.map_cons, List.nodup_cons] at hn
  obtain ⟨a, b⟩ := q
  rcases List.mem_cons.1 hp with rfl | hp
  ·simp [List.lookup]
  ·have : p.1 ≠ a := fun e => hn.1 (List.mem_map.2 ⟨p, hp, e⟩)
   rw [List.lookup_cons, beq_false_of_ne this]
   exact ih hn.2 hp
theorem nodup_vint {r : Nat} {L : List (Int × Value)} (h : VMap w r L) : (L.map (·.1)).Nodup := by
 obtain ⟨es, c, _, ⟨_, _, h2⟩, h3⟩ := h
 have e : es.toList.map (·.key) = L.map (fun p => Value.int .i64 p.1) := by
  have := congrArg (List.map Prod.fst) h3
  simpa [rdV, encV, List.map_map, Function.comp_def] using this
 rw [e] at h2
 have h4 : ((L.map (·.1)).map (fun x => Value.int .i64 x)).Nodup := by rw [List.map_map]; exact h2
 exact List.Pairwise.of_map _ (fun a b hab e => hab (by rw [e])) h4
theorem find_vint {kt : TypeId} {L : List (Int × Value)} (hk : P.underlying kt = some (.int .i64)) {es : Array MapEntry} (hm : es.toList.map rdV = L.map encV) (hn : (L.map (·.1)).Nodup) (x : Int) (w : World) :
  (L.lookup x = none ∧ (Instr.findKey kt (.int .i64 x) es.toList).run P w = .ok none w ∧ ∀ e ∈ es.toList, e.key ≠ Value.int .i64 x) ∨
  ∃ i v, L.lookup x = some v ∧ (Instr.findKey kt (.int .i64 x) es.toList).run P w = .ok (some (i, v)) w := by
 have hget : ∀ (i : Nat) (e : MapEntry), es.toList[i]? = some e → ∃ p, L[i]? = some p ∧ e.key = Value.int .i64 p.1 ∧ e.val = p.2 := by
  intro i e he
  have := congrArg (fun l => l[i]?) hm
  simp only [List.getElem?_map, he, Option.map_some] at this
  obtain ⟨p, hp, e2⟩ := Option.map_eq_some_iff.1 this.symm
  exact ⟨p, hp, (congrArg Prod.fst e2).symm, (congrArg Prod.snd e2).symm⟩
 rcases MapKept.findNow_spec (d := .int .i64) (k := .int .i64 x) rfl es.toList 0 (keys_vint hm) with ⟨h1, h2⟩ | ⟨j, e, h1, h2, h3⟩
 ·refine .inl ⟨vlookup_none fun p hp hpx => ?_, MapKept.run_findKey hk h1, h2⟩
  obtain ⟨i, hi⟩ := List.getElem?_of_mem hp
  have := congrArg (fun l => l[i]?) hm
  simp only [List.getElem?_map, hi, Option.map_some] at this
  obtain ⟨e, he, e2⟩ := Option.map_eq_some_iff.1 this
  refine h2 e (List.mem_of_getElem? he) ?_
  rw [show e.key = Value.int .i64 p.1 from congrArg Prod.fst e2, hpx]
 ·obtain ⟨p, hp, e1, e2⟩ := hget j e h2
  rw [h3] at e1
  have hx := intK_inj e1
  refine .inr ⟨j, p.2, ?_, ?_⟩
  ·rw [hx]; exact vlookup_at hn (List.mem_of_getElem? hp)
  ·have := MapKept.run_findKey (P := P) (w := w) hk h1
   rw [this, e2, Nat.zero_add]
theorem W_makeMapV {T : TypeId} (h : ∀ w', Ext w w' → w'.heap.size = w.heap.size + 1 → VMap w' w.heap.size [] → AU P all Z K rest (upd f d (.map (some w.heap.size))) ds w') :
  AU P all Z K (⟨some d, .makeMap T none, ty, pos, af, none⟩ :: rest) f ds w := by
 refine A3 (v := .map (some w.heap.size)) (w' := w.alloc (.map #[] 0)) rfl ?_ (h _ ⟨rfl, rfl, rfl, by simp, fun k hk _ => heap_alloc_old w _ hk, fun _ => mark_new (by simp) (fun k hk => heap_alloc_old w _ hk) (fun c t fr e => by rw [heap_alloc_new] at e; cases e)⟩ (by simp) ⟨#[], 0, heap_alloc_new w _, MapKept.stamped_empty 0, rfl⟩)
 have hr : (Instr.makeMap T none).run P w = .ok (.map (some w.heap.size)) (w.alloc (.map #[] 0)) := rfl
 simp [execOp, hr]
theorem W_lookup2V {T : TypeId} {m k : Operand} {r : Nat} {x : Int} {z : Value} {L : List (Int × Value)} [hT : VMapT P T z] (hm : ev f m = .map (some r)) (hk : ev f k = .int .i64 x) (hL : VMap w r L)
  (h : AU P all Z K rest (upd f d (.tuple #[(L.lookup x).getD z, .bool (L.lookup x).isSome])) ds w) : AU P all Z K (⟨some d, .lookup T m k true, ty, pos, af, none⟩ :: rest) f ds w := by
 obtain ⟨kt, et, i, h1, h2, h3, h4⟩ := hT.out
 have hn := nodup_vint hL
 obtain ⟨es, clock, hb, hs, hmm⟩ := hL
 refine A3 rfl ?_ h
 have hck := MapKept.run_checkKey (P := P) (w := w) (k := .int .i64 x) h2 rfl es.isEmpty 9999
 have hz : (zeroValue et).run P w = .ok z w := by simp [zeroValue, typeInfo, h3, h4]
 rcases find_vint h2 hmm hn x w with ⟨e1, e2, _⟩ | ⟨j, v, e1, e2⟩
 ·simp [execOp, hm, hk, Instr.lookup, run_underlying h1, MapKept.run_getObj_map hb, hck, e2, hz, e1]
 ·simp [execOp, hm, hk, Instr.lookup, run_underlying h1, MapKept.run_getObj_map hb, hck, e2, e1]
theorem setBlkV_keep {w : World} {r : Nat} {o' : Obj} (ho : ∀ c t fr, o' ≠ .cells c t fr) : Keep [r] w { w with heap := w.heap.setIfInBounds r o' } :=
 ⟨rfl, rfl, rfl, by simp, fun k _ hk => by simp [Ne.symm (show k ≠ r by simpa using hk)], fun _ => mark_obj ho⟩
theorem Bc {T : TypeId} {m k v : Operand} {r : Nat} {x : Int} {y z : Value} {L : List (Int × Value)} [hT : VMapT P T z] (hm : ev f m = .map (some r)) (hk : ev f k = .int .i64 x) (hv : ev f v = y) (hL : VMap w r L) (hx : L.lookup x = none)
  (h : ∀ w', Keep [r] w w' → w'.heap.size = w.heap.size → VMap w' r (L ++ [(x, y)]) → AU P all Z K rest f ds w') : AU P all Z K (⟨none, .insert T m k v, ty, pos, af, none⟩ :: rest) f ds w := by
 obtain ⟨kt, et, i, h1, h2, h3, h4⟩ := hT.out
 have hn := nodup_vint hL
 obtain ⟨es, clock, hb, hs, hmm⟩ := hL
 have hck := MapKept.run_checkKey (P := P) (w := w) (k := .int .i64 x) h2 rfl false 9999
 rcases find_vint h2 hmm hn x w with ⟨e1, e2, e3⟩ | ⟨j, v0, e1, e2⟩
 ·refine W_skp (w' := { w with heap := w.heap.setIfInBounds r (.map (es.push { key := .int .i64 x, val := y, born := clock }) (clock + 1)) }) rfl ?_ (h _ (setBlkV_keep fun _ _ _ h => by cases h) (by simp) ⟨_, _, (MapKept.heap_set hb).1, MapKept.stamped_push hs e3, ?_⟩)
  ·simp [execOp, hm, hk, hv, Instr.mapUpdate, run_underlying h1, MapKept.run_getObj_map hb, hck, e2, MapKept.run_setObj_map _ hb]
  ·rw [Array.toList_push, List.map_append, hmm]
   simp [rdV, encV]
 ·rw [e1] at hx; cases hx
end Go.Proofs.YtfcgdbmoncnibaaGreatDoor
namespace Go.Proofs.YtfcgdbmoncnibaaGreatDoor
open Go.RowKit
variable {mk : Prop} [MK mk]
attribute [local semireducible] WC AU Bv BQ Bx Cr C5 Bp
variable {P : Program} {ops : Array Oper} {rr : Option Nat}
def backB (l : List Oper) : Bool := (List.range l.length).all fun i => match l[i]? with
 | some o => o.after.toList.all fun e => Nat.blt e.on i
 | none => true
theorem backB_at {l : List Oper} (h : backB l = true) {i : Nat} {o : Oper} (ho : l[i]? = some o) : ∀ e ∈ o.after, e.on < i := by
 intro e he
 have hi : i < l.length := (List.getElem?_eq_some_iff.1 ho).1
 have := List.all_eq_true.1 h i (List.mem_range.2 hi)
 rw [ho] at this
 have := List.all_eq_true.1 this e (by simpa using he)
 rw [Nat.blt_eq] at this
 exact this
theorem filter_lt {p q : Nat → Bool} {j : Nat} (hq : ∀ x, q x = true → p x = true) (hj : p j = true) (hj' : q j = false) : ∀ {l : List Nat}, j ∈ l → (l.filter q).length < (l.filter p).length
 | [], h => by cases h
 | x :: l, h => by
  have hle : ∀ m : List Nat, (m.filter q).length ≤ (m.filter p).length := by
   intro m
   induction m with
   | nil => exact Nat.le_refl _
   | cons y m ih =>
    rw [List.filter_cons, List.filter_cons]
    cases hy : q y with
    | true => rw [hq y hy]; simp; exact ih
    | false => cases p y <;> simp <;> omega
  rw [List.filter_cons, List.filter_cons]
  rcases List.mem_cons.1 h with rfl | h
  ·rw [hj, hj']
   have := hle l
   simp; omega
  ·have ih := filter_lt hq hj hj' h
   cases hx : q x with
   | true => rw [hq x hx]; simp; exact ih
   | false => cases p x <;> simp <;> omega
theorem wpAny_inv {n : Nat} {Q : Ch} {Inv : (Nat → Bool) → Fr → DS → World → Prop} (hok : ops.toList.all (opOk n rr.isSome) = true) (hback : ∀ (i : Nat) (o : Oper), ops[i]? = some o → ∀ e ∈ o.after, e.on < i)
  (step : ∀ (L : Nat → Bool) (f : Fr) (ds : DS) (w : World) (i : Nat) (o : Oper), Inv L f ds w → ops[i]? = some o → L i = false → (∀ e ∈ o.after, Region.binds .any e = true → L e.on = true) →
   AU P ops (fun f ds ch w => Q (.panic ch) f ds w) (fun f' ds' w' => Inv (fun j => j == i || L j) f' ds' w') [o] f ds w)
  (fin : ∀ (L : Nat → Bool) (f : Fr) (ds : DS) (w : World), Inv L f ds w → (∀ i, i < ops.size → L i = true) → Q .normal f ds w) :
  ∀ (fuel : Nat) (listed : Array Bool) (a : Act) (w : World), listed.size = ops.size → ((List.range ops.size).filter fun i => !listed.getD i true).length ≤ fuel → a.tmps.size = n → Inv (fun i => listed.getD i true) (B4 a) a.defers w →
   wpAnyIn (rnd rr) 0 P .any ops (liftQ n Q) fuel listed a w := by
 have all_of : ∀ (listed : Array Bool), listed.size = ops.size → Region.ready .any ops listed = [] → ∀ i, i < ops.size → listed.getD i true = true := by
  intro listed hsz hr i
  induction i using Nat.strongRecOn with
  | ind i ih =>
   intro hi
   cases hl : listed.getD i true with
   | true => rfl
   | false =>
    exfalso
    have ho : ops[i]? = some ops[i] := Array.getElem?_eq_getElem hi
    have : i ∈ Region.ready .any ops listed := by
     refine mem_ready.2 ⟨hl, _, ho, fun e he hb => ?_⟩
     have hlt := hback i _ ho e he
     have := ih e.on hlt (by omega)
     rw [Array.getD_eq_getD_getElem?, Array.getElem?_eq_getElem (by omega)] at this ⊢
     exact this
    rw [hr] at this
    cases this
 have isFin : ∀ (listed : Array Bool) (a : Act) (w : World), listed.size = ops.size → a.tmps.size = n → Inv (fun i => listed.getD i true) (B4 a) a.defers w → Region.ready .any ops listed = [] → liftQ n Q .normal a w :=
  fun listed a w hsz hn hI hr => ⟨hn, fin _ _ _ _ hI (fun i hi => all_of listed hsz hr i hi)⟩
 intro fuel
 induction fuel with
 | zero =>
  intro listed a w hsz hc hn hI
  have hr : Region.ready .any ops listed = [] := by
   cases hrd : Region.ready .any ops listed with
   | nil => rfl
   | cons j t =>
    exfalso
    obtain ⟨hj, oj, hoj, _⟩ := mem_ready.1 (show j ∈ Region.ready .any ops listed by rw [hrd]; simp)
    have hjlt : j < ops.size := (Array.getElem?_eq_some_iff.1 hoj).1
    have hm : j ∈ (List.range ops.size).filter fun i => !listed.getD i true := List.mem_filter.2 ⟨List.mem_range.2 hjlt, by rw [hj]; rfl⟩
    have := List.length_pos_of_mem hm
    omega
  exact ⟨hr, isFin listed a w hsz hn hI hr⟩
 | succ fuel ih =>
  intro listed a w hsz hc hn hI
  refine ⟨isFin listed a w hsz hn hI, fun i hi => ?_⟩
  obtain ⟨hun, oi, hoi, hall⟩ := mem_ready.1 hi
  have hilt : i < ops.size := (Array.getElem?_eq_some_iff.1 hoi).1
  have hdn : opOk n rr.isSome oi = true := List.all_eq_true.1 hok oi (by simpa using Array.mem_of_getElem? hoi)
  have hsL : ∀ e ∈ oi.after, Region.binds .any e = true → listed.getD e.on true = true := fun e he hb => by
   have h1 := hall e he hb
   have hlt := hback i _ hoi e he
   rw [Array.getD_eq_getD_getElem?, Array.getElem?_eq_getElem (by omega)] at h1 ⊢
   exact h1
  have hst := step _ _ _ _ i oi hI hoi hun hsL
  refine wpOp_of_WOps hoi hn hdn ?_ hst
  intro a' w' hn' hI'
  have hsame : (fun j => (listed.setIfInBounds i true).getD j true) = fun j => j == i || listed.getD j true := by
   funext j
   by_cases hji : j = i
   ·subst hji
    rw [Array.getD_eq_getD_getElem?, Array.getElem?_setIfInBounds_self, if_pos (by omega)]
    simp
   ·rw [Array.getD_eq_getD_getElem?, Array.getElem?_setIfInBounds_ne (Ne.symm hji), ← Array.getD_eq_getD_getElem?]
    simp [hji]
  refine ih (listed.setIfInBounds i true) a' w' (by simp [hsz]) ?_ hn' (by rw [hsame]; exact hI')
  have hlt := filter_lt (p := fun j => !listed.getD j true) (q := fun j => !(listed.setIfInBounds i true).getD j true) (j := i) (fun x hx => by
   have h2 : (listed.setIfInBounds i true).getD x true = (x == i || listed.getD x true) := congrFun hsame x
   rw [h2] at hx
   simp only [Bool.not_eq_true', Bool.or_eq_false_iff] at hx ⊢
   exact hx.2) (by rw [hun]; rfl) (by have h2 : (listed.setIfInBounds i true).getD i true = (i == i || listed.getD i true) := congrFun hsame i; rw [h2]; simp) (List.mem_range.2 hilt)
  omega
def quietQ (Q : Ch) : Ch := fun e f ds w => match e with
 | .normal => Q .normal f ds w
 | _ => False
theorem C_inv {n : Cf} {Q : Ch} {id : Nat} {l : List Oper} {f : Fr} {ds : DS} {w : World} (Inv : (Nat → Bool) → Fr → DS → World → Prop) (hm : P.follows .mixedOrders = true) (hc : (l.all (opOk n.n n.r.isSome) && backB l) = true)
  (hI : ∀ w1, Ext w w1 → w1.heap = w.heap → Inv (fun i => !Nat.blt i l.length) f ds w1)
  (step : ∀ (L : Nat → Bool) (f : Fr) (ds : DS) (w : World) (i : Nat) (o : Oper), Inv L f ds w → l[i]? = some o → L i = false → (∀ e ∈ o.after.toList, Region.binds .any e = true → L e.on = true) →
   AU P l.toArray (fun _ _ _ _ => False) (fun f' ds' w' => Inv (fun j => j == i || L j) f' ds' w') [o] f ds w)
  (fin : ∀ (L : Nat → Bool) (f : Fr) (ds : DS) (w : World), Inv L f ds w → (∀ i, i < l.length → L i = true) → Q .normal f ds w) : WC P n (.region id l.toArray true) Q f ds w := by
 simp only [Bool.and_eq_true] at hc
 rintro a hn rfl rfl
 refine wpIn_mono (Q := liftQ n.n (quietQ Q)) (wpIn_region_any hm ?_) ?_
 ·refine wpAny_inv (P := P) (Q := quietQ Q) (Inv := Inv) (ops := l.toArray) (rr := n.r) hc.1 (fun i o ho e he => backB_at hc.2 (by simpa using ho) e he) (fun L f ds w i o h1 h2 h3 h4 => step L f ds w i o h1 (by simpa using h2) h3 (fun e he => h4 e (by simpa using he))) (fun L f ds w h1 h2 => fin L f ds w h1 (fun i hi => h2 i (by simpa using hi))) _ _ a _ (by simp) ?_ hn ?_
  ·exact Nat.le_trans (List.length_filter_le _ _) (by simp)
  ·have := hI { w with drawn := w.drawn + 1 } ⟨rfl, rfl, rfl, Nat.le_refl _, fun _ _ _ => rfl, fun _ => mark_heap rfl⟩ rfl
   have e : (fun i => (Array.replicate l.toArray.size false).getD i true) = fun i => !Nat.blt i l.length := by
    funext i
    rw [Array.getD_eq_getD_getElem?, Array.getElem?_replicate]
    by_cases hi : i < l.length
    ·simp [hi]
    ·have hb : Nat.blt i l.length = false := by rw [Bool.eq_false_iff, ne_eq, Nat.blt_eq]; exact hi
     simp [hi, hb]
   rw [e]
   exact this
 ·intro e a w hq
  obtain ⟨h1, h2⟩ := hq
  cases e with
  | normal => exact ⟨h1, h2⟩
  | _ => exact h2.elim
end Go.Proofs.YtfcgdbmoncnibaaGreatDoor
