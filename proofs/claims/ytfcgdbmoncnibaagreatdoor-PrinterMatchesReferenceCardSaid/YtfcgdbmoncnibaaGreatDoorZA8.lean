/- The nodes of a formula, one after the other: the iterator walked. The nodes of a formula: the loop around, and the number of nodes. The printer's laws: the example. The parser's plain law: where formulas stop, formulas in parentheses, operators between and ahead. The printer's plain law: texts that read as tokens, from the right, without limits. The printer's plain law: the text of a formula and its tokens. The printer's plain law: the text of a formula reads as its tokens. Rules for maps from integers to values: made, filled, looked up. A rule for a statement whose order is drawn: an invariant over what has been done. The printer: the table of styles, whatever the order in which it is filled. Conditions: none. -/
import Derived.Test.YtfcgdbmoncnibaaGreatDoorZA7
import Derived.Maps.RangeRun

namespace Go.Proofs.YtfcgdbmoncnibaaGreatDoor
open Go.RowKit
set_option linter.unusedVariables false
variable {mk : Prop} [MK mk]
abbrev Nd := Fml × Bool
mutual
def preF (i : Bool) : Fml → List Nd
 | .mk op nm v b args => (.mk op nm v b args, i) :: Ct (i || (Cn op).past) args
def Ct (i : Bool) : List Fml → List Nd
 | [] => []
 | f :: l => preF i f ++ Ct i l
end
mutual
def dpF : Fml → Nat
 | .mk _ _ _ _ args => dpL args + 1
def dpL : List Fml → Nat
 | [] => 0
 | f :: l => max (dpF f) (dpL l)
end
theorem preF_eq (i : Bool) (f : Fml) : preF i f = (f, i) :: Ct (i || (Cn f.op).past) f.args := by cases f; simp [preF, Fml.args, Fml.op]
theorem dpF_eq (f : Fml) : dpF f = dpL f.args + 1 := by cases f; simp [dpF, Fml.args]
theorem dpL_mem : ∀ {l : List Fml} {a : Fml}, a ∈ l → dpF a ≤ dpL l
 | c :: l, a, h => by
  simp only [dpL]
  rcases List.mem_cons.1 h with rfl | h
  ·omega
  ·have := dpL_mem h; omega
theorem preL_app (i : Bool) : ∀ l m : List Fml, Ct i (l ++ m) = Ct i l ++ Ct i m
 | [], m => rfl
 | f :: l, m => by simp [Ct, preL_app i l m]
theorem preL_take (i : Bool) {l : List Fml} {k : Nat} {x : Fml} (h : l[k]? = some x) : Ct i (l.take (k + 1)) = Ct i (l.take k) ++ preF i x := by
 rw [List.take_add_one, h, Option.toList_some, preL_app]; simp [Ct]
structure NodesR (yv : Value) (X : List Nat) (B : Nat) (P : List Nd) (J D : List Nd → World → Prop) : Prop where
 fn : ∃ y, yv = .func (.yield y) #[] #[]
 glob : ∀ x ∈ X, 10 ≤ x
 keep : ∀ {L : List Nd} {W W' : World} {Y : List Nat}, J L W → Keep Y W W' → (∀ y ∈ Y, B ≤ y) → J L W'
 step : ∀ {L : List Nd} {W : World} {b o : Nat} {f : Fml} {i : Bool}, J L W → PF (fun b => b ∉ X ∧ b < B) W b o f → L ++ [(f, i)] <+: P → YldP Tryz.prog yv [.pointer (some ⟨b, o, none⟩), .bool i] W (fun v W' => Keep X W W' ∧ ((v = .bool true ∧ J (L ++ [(f, i)]) W') ∨ (v = .bool false ∧ D (L ++ [(f, i)]) W'))) fun _ _ => False
theorem PF.opc {ok : Nat → Prop} {w : World} {b o : Nat} {f : Fml} (h : PF ok w b o f) : w.cell? ⟨b, o + 0, none⟩ = some (.int .i64 f.op) := by
 obtain ⟨_, a, c, L, hc, _⟩ := h.form
 exact hc 0 _ rfl
theorem PF.arg {ok : Nat → Prop} {w : World} {b o : Nat} {f : Fml} (h : PF ok w b o f) : ∃ a c, f.args.length ≤ 9223372036854775807 ∧ w.cell? ⟨b, o + 4, none⟩ = some (.slice a f.args.length c) ∧ ∀ (k : Nat) (x : Fml), f.args[k]? = some x → ∃ b' o', a = some ⟨b', o', none⟩ ∧ PF ok w b' (o' + k * 5) x := by
 obtain ⟨_, a, c, L, hc, hS, h1, h2, h3⟩ := h.form
 refine ⟨a, c, by obtain ⟨_, _, hv, g1, g2, _⟩ := id hS; cases hv; omega, hc 4 _ rfl, fun k x hx => ?_⟩
 have hlt : k < f.args.length := (List.getElem?_eq_some_iff.1 hx).1
 obtain ⟨d, hd⟩ : ∃ d, L[k]? = some d := ⟨_, List.getElem?_eq_getElem (by omega)⟩
 obtain ⟨b', o', rfl, hb, hcx⟩ := hS.fml h2 hd hlt
 exact ⟨b', o', rfl, hb, d, h2 d (List.mem_of_getElem? hd), hcx, h3 k d x hd hx⟩
theorem NodesR.ext {yv : Value} {X : List Nat} {B : Nat} {P : List Nd} {J D : List Nd → World → Prop} (H : NodesR yv X B P J D) {L : List Nd} {W W' : World} (h : J L W) (k : Ext W W') : J L W' := H.keep h k fun _ h => by cases h
theorem visit_ok {yv : Value} {X : List Nat} {B : Nat} {P : List Nd} {J D : List Nd → World → Prop} (H : NodesR yv X B P J D) (c3 c4 c5 : Nat) (h4 : c4 ∉ X) (h5 : c5 ∉ X) : ∀ (n : Nat) (w : World) (b o : Nat) (f : Fml) (i : Bool) (d : Nat) (L : List Nd), dpF f ≤ n → d + n ≤ 5000 → PF (fun b => b ∉ X ∧ b < B) w b o f → GF w →
  Blk w c4 169 [yv] → Blk w c5 173 [.func (.func 117) #[] #[pt c3, pt c4, pt c5]] → J L w → L ++ preF i f <+: P →
  Fn Tryz.prog 117 [.pointer (some ⟨b, o, none⟩), .bool i, .int .i64 d, pt c3, pt c4, pt c5] w fun v w' => Keep X w w' ∧ ((v = .bool true ∧ J (L ++ preF i f) w') ∨ (v = .bool false ∧ ∃ M, M <+: preF i f ∧ M ≠ [] ∧ D (L ++ M) w')) := by
 intro n
 induction n with
 | zero => intro w b o f i d L hn; rw [dpF_eq] at hn; omega
 | succ n ih =>
 intro w b o f i d L hn hd hf hG b4 b5 hJ hP
 rw [dpF_eq] at hn
 have hdl : d < 5000 := by omega
 obtain ⟨y, rfl⟩ := H.fn
 refine Aa Tryz.func117 rfl Tryz.ntmps117 (Nat.le_of_ble_eq_true rfl) (by kernel_rfl) ?_
 repeat' first | refine nx rfl ?_ | fail
 refine AA (AB (AC rfl ?_))
 repeat' first | refine nx rfl ?_ | fail
 (refine AA (AI rfl ?_) <;> (refine AH rfl rfl (fun hc => ?_) (fun hc => ?_) <;> try omega))
 repeat' first | refine nx rfl ?_ | refine nf rfl ?_
 (refine AA ?_ <;> refine AG rfl (Blk.cell (by assumption) (by rfl)) ?_ <;> refine AP rfl (AC rfl ?_))
 refine W_yield rfl rfl (H.step hJ hf (((List.prefix_append_right_inj L).2 (by rw [preF_eq]; exact ⟨_, rfl⟩)).trans hP)) ?_
 rintro _ w1 ⟨k1, hr⟩
 rcases hr with ⟨rfl, hJ1⟩ | ⟨rfl, hD⟩
 case inr =>
  (refine A4 rfl ?_)
  repeat' first | refine nx rfl ?_ | fail
  refine AA (AB (AC rfl ?_))
  repeat' first | refine nx rfl ?_ | fail
  exact AL rfl ⟨k1, .inr ⟨rfl, [(f, i)], by rw [preF_eq]; exact ⟨_, rfl⟩, by simp, hD⟩⟩
 have hf1 := hf.keep k1 (fun _ h => h.1)
 have hG1 := hG.keep k1 H.glob
 have b41 := b4.keep k1 h4
 have b51 := b5.keep k1 h5
 (refine A4 rfl ?_)
 repeat' first | refine nx rfl ?_ | refine nf rfl ?_
 have hop := hf1.opc
 (refine AA (AP rfl (AJ rfl (AD rfl ?_))) <;> refine AG rfl (by assumption) ?_)
 refine AR (formOf_ok w1 f.op hG1) rfl ?_
 rintro _ w2 ⟨rfl, k2⟩
 refine Bl rfl (Aj rfl rfl (Aj rfl rfl ?_))
 refine A7 (cs := Bx (Cn f.op)) rfl rfl (by rfl) (formC_one _) (fun w3 n3 => ?_)
 ((refine AB ?_; refine AC rfl ?_))
 repeat' first | refine nx rfl ?_ | fail
 have k3 := k2.trans n3.keep
 have b3 := n3.blk
 have hf3 := hf1.keep k3 (fun _ _ => by simp)
 have hG3 := hG1.ext k3
 have b43 := b41.keep k3 (by simp)
 have b53 := b51.keep k3 (by simp)
 have k13 : Keep X w w3 := k1.ext k3
 have hJ3 := H.ext hJ1 k3
 have hpast : w3.cell? ⟨w2.heap.size, 0 + 5, none⟩ = some (.bool (Cn f.op).past) := b3.cell rfl
 obtain ⟨a3, cc3, hal, hargs3, _⟩ := hf3.arg
 cases i with
 | true =>
  refine AA (AC rfl (AC rfl (AK rfl (AK rfl (AN rfl (AC rfl (AB (AC rfl ?_))))))))
  repeat' first | refine nx rfl ?_ | fail
  (refine AA (AP rfl (AJ rfl (AD rfl ?_))) <;> refine AG rfl (by assumption) ?_ <;> refine Ao rfl (AI rfl ?_))
  repeat' first | refine nx rfl ?_ | fail
  refine BE (α := Nat) (fun k => [(0, .pointer (some ⟨b, o, none⟩)), (1, .bool true), (2, .int .i64 (d : Int)), (5, pt c5), (43, .int .i64 (f.args.length : Int)), (44, .int .i64 (k : Int))]) (fun k W => k ≤ f.args.length ∧ Keep X w W ∧ Ext w3 w3 ∧ J (L ++ ((f, true) :: Ct true (f.args.take k))) W ∧ GF W ∧ PF (fun b => b ∉ X ∧ b < B) W b o f ∧ Blk W c4 169 [.func (.yield y) #[] #[]] ∧ Blk W c5 173 [.func (.func 117) #[] #[pt c3, pt c4, pt c5]]) (fun k => f.args.length - k) 0 ⟨rfl, rfl, rfl, rfl, rfl, rfl, trivial⟩ ⟨by omega, k13, Ext.refl _, by simpa [Ct] using hJ3, hG3, hf3, b43, b53⟩ ?_
  rintro k W fr ⟨hk, kW, _, hJW, hGW, hfW, b4W, b5W⟩
  repeat' first | refine nx rfl ?_ | fail
  by_cases hlt : k < f.args.length
  ·(refine AA ?_ <;> (refine As rfl rfl (fun hc => ?_) (fun hc => ?_) <;> try omega))
   repeat' first | refine nx rfl ?_ | fail
   refine AA (AI rfl (AB (AI rfl ?_)))
   repeat' first | refine nx rfl ?_ | fail
   obtain ⟨x, hx⟩ : ∃ x, f.args[k]? = some x := ⟨_, List.getElem?_eq_getElem hlt⟩
   obtain ⟨aa, cc, _, hargs, hel⟩ := hfW.arg
   obtain ⟨b', o', rfl, hfx⟩ := hel k x hx
   have hfa : f.args = f.args.take k ++ x :: f.args.drop (k + 1) := by
    have := List.take_append_drop k f.args
    rw [List.drop_eq_getElem_cons hlt, (List.getElem?_eq_some_iff.1 hx).2] at this
    exact this.symm
   have hpe : Ct true f.args = Ct true (f.args.take k) ++ (preF true x ++ Ct true (f.args.drop (k + 1))) := by
    conv => lhs; rw [hfa, preL_app]
    simp [Ct]
   have hPx : (L ++ ((f, true) :: Ct true (f.args.take k))) ++ preF true x <+: P := by
    refine List.IsPrefix.trans ?_ hP
    rw [preF_eq true f, List.append_assoc, List.prefix_append_right_inj]
    show _ <+: (f, true) :: Ct true f.args
    rw [hpe, List.cons_append, List.prefix_cons_inj, List.prefix_append_right_inj]
    exact List.prefix_append _ _
   have hdx : dpF x ≤ n := by have := dpL_mem (List.mem_of_getElem? hx); omega
   refine BA (.read 0 (.read 1 (.read 2 (.read 3 (.read 4 (.read 5 (.read 6 (.read 7 (.read 8 (.read 9 (.alt 10 (.read 11 .done) .stop))))))))))) A6 (by kernel_rfl) (fun wd kd ed => ⟨Keep X wd, ?_, ?_⟩)
   ·exact Keep.refl _ _
   have ca : ∀ V, Keep X wd V → V.cell? ⟨c5, 0, none⟩ = some (.func (.func 117) #[] #[pt c3, pt c4, pt c5]) := fun V e => ((b5W.keep kd (by simp)).keep e h5).cell rfl
   have cb : ∀ V, Keep X wd V → V.cell? ⟨b, o + 4, none⟩ = some (.slice (some ⟨b', o', none⟩) f.args.length cc) := fun V e => e.cell (kd.cell hargs (by simp)) hfW.1.1
   ((apply D_R rfl rfl; (intro W hW; refine AG rfl (ca W hW) ?_; exact AE ⟨rfl, rfl, rfl⟩)) <;> (apply D_R rfl rfl; (intro W hW; refine AP rfl ?_; exact AE ⟨rfl, rfl, rfl⟩)) <;> (apply D_R rfl rfl; (intro W hW; refine AJ rfl ?_; exact AE ⟨rfl, rfl, rfl⟩)) <;> (apply D_R rfl rfl; (intro W hW; refine AD rfl ?_; exact AE ⟨rfl, rfl, rfl⟩)) <;> (apply D_R rfl rfl; (intro W hW; refine AG rfl (cb W hW) ?_; exact AE ⟨rfl, rfl, rfl⟩)) <;> (apply D_R rfl rfl; (intro W hW; refine AI rfl ?_; exact AE ⟨rfl, rfl, rfl⟩)) <;> (apply D_R rfl rfl; (intro W hW; refine BP rfl rfl rfl (by omega) ?_; exact AE ⟨rfl, rfl, rfl⟩)) <;> (apply D_R rfl rfl; (intro W hW; refine AC rfl ?_; exact AE ⟨rfl, rfl, rfl⟩)) <;> (apply D_R rfl rfl; (intro W hW; refine AI rfl ?_; exact AE ⟨rfl, rfl, rfl⟩)) <;> (apply D_R rfl rfl; (intro W hW; refine BD rfl rfl (by first | exact Ah (by omega) (by omega) | exact Aq (by omega) (by omega) | exact Ai (by omega) (by omega)) ?_; exact AE ⟨rfl, rfl, rfl⟩)))
   refine D_E rfl ?_
   refine Bo (v1 := []) (v2 := [pt c3, pt c4, pt c5]) (vs := [.pointer (some ⟨b', o' + k * 5, none⟩), .bool true, .int .i64 ((d : Int) + 1)]) rfl (ih wd b' (o' + k * 5) x true (d + 1) _ hdx (by omega) (hfx.keep kd (fun _ _ => by simp)) (hGW.ext kd) (b4W.keep kd (by simp)) (b5W.keep kd (by simp)) (H.ext hJW kd) hPx) rfl ?_
   rintro _ w4 ⟨k4, hr⟩
   refine AE ⟨Keep X wd, fun _ e => e, k4, ?_⟩
   have kW4 : Keep X w w4 := (kW.ext kd).trans k4 (fun _ hx _ => hx)
   rcases hr with ⟨rfl, hJ4⟩ | ⟨rfl, M, hM1, hM2, hD⟩
   ·((apply D_R rfl rfl; (intro W hW; refine A4 rfl ?_; exact AE ⟨rfl, rfl, rfl⟩)) <;> refine A0 ?_)
    repeat' first | refine nx rfl ?_ | refine nf rfl ?_
    (refine AA ?_ <;> refine BD rfl rfl (by first | exact Ah (by omega) (by omega) | exact Aq (by omega) (by omega) | exact Ai (by omega) (by omega)) ?_ <;> refine AI rfl ?_)
    repeat' first | refine nx rfl ?_ | fail
    refine ⟨k + 1, ⟨rfl, ⟨rfl, rfl, rfl, rfl, rfl, ?_, trivial⟩, ⟨by omega, kW4, Ext.refl _, ?_, (hGW.ext kd).keep k4 H.glob, (hfW.keep kd (fun _ _ => by simp)).keep k4 (fun _ h => h.1), (b4W.keep kd (by simp)).keep k4 h4, (b5W.keep kd (by simp)).keep k4 h5⟩⟩, by omega⟩
    ·show Value.int .i64 ((k : Int) + 1) = _
     rw [Int.natCast_add]; rfl
    ·rw [preL_take _ hx]; simpa using hJ4
   ·((apply D_R rfl rfl; (intro W hW; refine A4 rfl ?_; exact AE ⟨rfl, rfl, rfl⟩)) <;> refine A0 ?_)
    repeat' first | refine nx rfl ?_ | fail
    refine AA (AB (AC rfl ?_))
    repeat' first | refine nx rfl ?_ | fail
    refine AL rfl ⟨kW4, .inr ⟨rfl, (f, true) :: Ct true (f.args.take k) ++ M, ?_, by simp, by simpa using hD⟩⟩
    rw [preF_eq]
    show _ <+: (f, true) :: Ct true f.args
    rw [hpe, List.cons_append, List.prefix_cons_inj, List.prefix_append_right_inj]
    exact hM1.trans (List.prefix_append _ _)
  ·(refine AA ?_ <;> (refine As rfl rfl (fun hc => ?_) (fun hc => ?_) <;> try omega))
   repeat' first | refine nx rfl ?_ | refine nf rfl ?_
   refine AA (AB (AC rfl ?_))
   repeat' first | refine nx rfl ?_ | fail
   rw [List.take_of_length_le (by omega)] at hJW
   refine AL rfl ⟨kW, .inl ⟨rfl, by rw [preF_eq]; exact hJW⟩⟩
 | false =>
  (refine AA (AC rfl (AC rfl (AF rfl (AD rfl ?_)))) <;> (refine AF rfl ?_; refine AG rfl (Blk.cell (by assumption) (by rfl)) ?_) <;> refine AQ rfl (AC rfl (AB (AC rfl ?_))))
  repeat' first | refine nx rfl ?_ | fail
  (refine AA (AP rfl (AJ rfl (AD rfl ?_))) <;> refine AG rfl (by assumption) ?_ <;> refine Ao rfl (AI rfl ?_))
  repeat' first | refine nx rfl ?_ | fail
  refine BE (α := Nat) (fun k => [(0, .pointer (some ⟨b, o, none⟩)), (1, .bool (Cn f.op).past), (2, .int .i64 (d : Int)), (5, pt c5), (43, .int .i64 (f.args.length : Int)), (44, .int .i64 (k : Int))]) (fun k W => k ≤ f.args.length ∧ Keep X w W ∧ Ext w3 w3 ∧ J (L ++ ((f, false) :: Ct (Cn f.op).past (f.args.take k))) W ∧ GF W ∧ PF (fun b => b ∉ X ∧ b < B) W b o f ∧ Blk W c4 169 [.func (.yield y) #[] #[]] ∧ Blk W c5 173 [.func (.func 117) #[] #[pt c3, pt c4, pt c5]]) (fun k => f.args.length - k) 0 ⟨rfl, rfl, rfl, rfl, rfl, rfl, trivial⟩ ⟨by omega, k13, Ext.refl _, by simpa [Ct] using hJ3, hG3, hf3, b43, b53⟩ ?_
  rintro k W fr ⟨hk, kW, _, hJW, hGW, hfW, b4W, b5W⟩
  repeat' first | refine nx rfl ?_ | fail
  by_cases hlt : k < f.args.length
  ·(refine AA ?_ <;> (refine As rfl rfl (fun hc => ?_) (fun hc => ?_) <;> try omega))
   repeat' first | refine nx rfl ?_ | fail
   refine AA (AI rfl (AB (AI rfl ?_)))
   repeat' first | refine nx rfl ?_ | fail
   obtain ⟨x, hx⟩ : ∃ x, f.args[k]? = some x := ⟨_, List.getElem?_eq_getElem hlt⟩
   obtain ⟨aa, cc, _, hargs, hel⟩ := hfW.arg
   obtain ⟨b', o', rfl, hfx⟩ := hel k x hx
   have hfa : f.args = f.args.take k ++ x :: f.args.drop (k + 1) := by
    have := List.take_append_drop k f.args
    rw [List.drop_eq_getElem_cons hlt, (List.getElem?_eq_some_iff.1 hx).2] at this
    exact this.symm
   have hpe : Ct (Cn f.op).past f.args = Ct (Cn f.op).past (f.args.take k) ++ (preF (Cn f.op).past x ++ Ct (Cn f.op).past (f.args.drop (k + 1))) := by
    conv => lhs; rw [hfa, preL_app]
    simp [Ct]
   have hPx : (L ++ ((f, false) :: Ct (Cn f.op).past (f.args.take k))) ++ preF (Cn f.op).past x <+: P := by
    refine List.IsPrefix.trans ?_ hP
    rw [preF_eq false f, List.append_assoc, List.prefix_append_right_inj]
    show _ <+: (f, false) :: Ct (Cn f.op).past f.args
    rw [hpe, List.cons_append, List.prefix_cons_inj, List.prefix_append_right_inj]
    exact List.prefix_append _ _
   have hdx : dpF x ≤ n := by have := dpL_mem (List.mem_of_getElem? hx); omega
   refine BA (.read 0 (.read 1 (.read 2 (.read 3 (.read 4 (.read 5 (.read 6 (.read 7 (.read 8 (.read 9 (.alt 10 (.read 11 .done) .stop))))))))))) A6 (by kernel_rfl) (fun wd kd ed => ⟨Keep X wd, ?_, ?_⟩)
   ·exact Keep.refl _ _
   have ca : ∀ V, Keep X wd V → V.cell? ⟨c5, 0, none⟩ = some (.func (.func 117) #[] #[pt c3, pt c4, pt c5]) := fun V e => ((b5W.keep kd (by simp)).keep e h5).cell rfl
   have cb : ∀ V, Keep X wd V → V.cell? ⟨b, o + 4, none⟩ = some (.slice (some ⟨b', o', none⟩) f.args.length cc) := fun V e => e.cell (kd.cell hargs (by simp)) hfW.1.1
   ((apply D_R rfl rfl; (intro W hW; refine AG rfl (ca W hW) ?_; exact AE ⟨rfl, rfl, rfl⟩)) <;> (apply D_R rfl rfl; (intro W hW; refine AP rfl ?_; exact AE ⟨rfl, rfl, rfl⟩)) <;> (apply D_R rfl rfl; (intro W hW; refine AJ rfl ?_; exact AE ⟨rfl, rfl, rfl⟩)) <;> (apply D_R rfl rfl; (intro W hW; refine AD rfl ?_; exact AE ⟨rfl, rfl, rfl⟩)) <;> (apply D_R rfl rfl; (intro W hW; refine AG rfl (cb W hW) ?_; exact AE ⟨rfl, rfl, rfl⟩)) <;> (apply D_R rfl rfl; (intro W hW; refine AI rfl ?_; exact AE ⟨rfl, rfl, rfl⟩)) <;> (apply D_R rfl rfl; (intro W hW; refine BP rfl rfl rfl (by omega) ?_; exact AE ⟨rfl, rfl, rfl⟩)) <;> (apply D_R rfl rfl; (intro W hW; refine AC rfl ?_; exact AE ⟨rfl, rfl, rfl⟩)) <;> (apply D_R rfl rfl; (intro W hW; refine AI rfl ?_; exact AE ⟨rfl, rfl, rfl⟩)) <;> (apply D_R rfl rfl; (intro W hW; refine BD rfl rfl (by first | exact Ah (by omega) (by omega) | exact Aq (by omega) (by omega) | exact Ai (by omega) (by omega)) ?_; exact AE ⟨rfl, rfl, rfl⟩)))
   refine D_E rfl ?_
   refine Bo (v1 := []) (v2 := [pt c3, pt c4, pt c5]) (vs := [.pointer (some ⟨b', o' + k * 5, none⟩), .bool (Cn f.op).past, .int .i64 ((d : Int) + 1)]) rfl (ih wd b' (o' + k * 5) x (Cn f.op).past (d + 1) _ hdx (by omega) (hfx.keep kd (fun _ _ => by simp)) (hGW.ext kd) (b4W.keep kd (by simp)) (b5W.keep kd (by simp)) (H.ext hJW kd) hPx) rfl ?_
   rintro _ w4 ⟨k4, hr⟩
   refine AE ⟨Keep X wd, fun _ e => e, k4, ?_⟩
   have kW4 : Keep X w w4 := (kW.ext kd).trans k4 (fun _ hx _ => hx)
   rcases hr with ⟨rfl, hJ4⟩ | ⟨rfl, M, hM1, hM2, hD⟩
   ·((apply D_R rfl rfl; (intro W hW; refine A4 rfl ?_; exact AE ⟨rfl, rfl, rfl⟩)) <;> refine A0 ?_)
    repeat' first | refine nx rfl ?_ | refine nf rfl ?_
    (refine AA ?_ <;> refine BD rfl rfl (by first | exact Ah (by omega) (by omega) | exact Aq (by omega) (by omega) | exact Ai (by omega) (by omega)) ?_ <;> refine AI rfl ?_)
    repeat' first | refine nx rfl ?_ | fail
    refine ⟨k + 1, ⟨rfl, ⟨rfl, rfl, rfl, rfl, rfl, ?_, trivial⟩, ⟨by omega, kW4, Ext.refl _, ?_, (hGW.ext kd).keep k4 H.glob, (hfW.keep kd (fun _ _ => by simp)).keep k4 (fun _ h => h.1), (b4W.keep kd (by simp)).keep k4 h4, (b5W.keep kd (by simp)).keep k4 h5⟩⟩, by omega⟩
    ·show Value.int .i64 ((k : Int) + 1) = _
     rw [Int.natCast_add]; rfl
    ·rw [preL_take _ hx]; simpa using hJ4
   ·((apply D_R rfl rfl; (intro W hW; refine A4 rfl ?_; exact AE ⟨rfl, rfl, rfl⟩)) <;> refine A0 ?_)
    repeat' first | refine nx rfl ?_ | fail
    refine AA (AB (AC rfl ?_))
    repeat' first | refine nx rfl ?_ | fail
    refine AL rfl ⟨kW4, .inr ⟨rfl, (f, false) :: Ct (Cn f.op).past (f.args.take k) ++ M, ?_, by simp, by simpa using hD⟩⟩
    rw [preF_eq]
    show _ <+: (f, false) :: Ct (Cn f.op).past f.args
    rw [hpe, List.cons_append, List.prefix_cons_inj, List.prefix_append_right_inj]
    exact hM1.trans (List.prefix_append _ _)
  ·(refine AA ?_ <;> (refine As rfl rfl (fun hc => ?_) (fun hc => ?_) <;> try omega))
   repeat' first | refine nx rfl ?_ | refine nf rfl ?_
   refine AA (AB (AC rfl ?_))
   repeat' first | refine nx rfl ?_ | fail
   rw [List.take_of_length_le (by omega)] at hJW
   refine AL rfl ⟨kW, .inl ⟨rfl, by rw [preF_eq]; exact hJW⟩⟩
end Go.Proofs.YtfcgdbmoncnibaaGreatDoor
namespace Go.Proofs.YtfcgdbmoncnibaaGreatDoor
open Go.RowKit
set_option linter.unusedVariables false
variable {mk : Prop} [MK mk]
theorem madePut : (madeCells (Value.agg #[.pointer none, .bool false]).cells (1 * 2)).toList = [.pointer none, .bool false] := by kernel_rfl
theorem nodesIt_ok {yv : Value} {X : List Nat} {J D : List Nd → World → Prop} (w : World) (cf b o : Nat) (f : Fml) (H : NodesR yv X w.heap.size (preF false f) J D) (hcf : Blk w cf 76 [.pointer (some ⟨b, o, none⟩)]) (hf : PF (fun b => b ∉ X ∧ b < w.heap.size) w b o f) (hG : GF w) (hN : 10 ≤ w.heap.size) (hd : dpF f ≤ 5000) (hJ : J [] w) (hX : ∀ x ∈ X, x < w.heap.size) :
  Fn Tryz.prog 116 [yv, pt cf] w fun _ w' => Keep X w w' ∧ (J (preF false f) w' ∨ ∃ M, M <+: preF false f ∧ M ≠ [] ∧ D M w') := by
 have hX' : ∀ {c : Nat}, w.heap.size ≤ c → c ∉ X := fun h hx => by have := hX _ hx; omega
 have hy := H.fn
 obtain ⟨y, rfl⟩ := hy
 refine Aa Tryz.func116 rfl Tryz.ntmps116 (Nat.le_of_ble_eq_true rfl) (by kernel_rfl) ?_
 repeat' first | refine nx rfl ?_ | fail
 (refine AA ?_; refine BL (L := [.func (.yield y) #[] #[]]) rfl (fun w1 n1 => ?_))
 repeat' first | refine nx rfl ?_ | fail
 have c1 : w1.cell? ⟨cf, 0, none⟩ = some (.pointer (some ⟨b, o, none⟩)) := (hcf.keep n1.keep (by simp)).cell rfl
 (refine AA ?_ <;> refine AG rfl (by assumption) ?_ <;> refine Ac (by rfl) (by rfl) ?_)
 refine AV (out := [.pointer (some ⟨b, o, none⟩), .bool false]) rfl (by omega) (by rw [madePut]; rfl) (fun w2 n2 => ?_)
 refine Av (fun w3 n3 => ?_)
 refine Al (v := .slice (some ⟨w1.heap.size, 0, none⟩) 1 1) rfl rfl rfl n3.blk (by simp) (fun w4 p4 => ?_)
 repeat' first | refine nx rfl ?_ | fail
 (refine AA ?_; refine Av (fun w5 n5 => ?_))
 repeat' first | refine nx rfl ?_ | fail
 refine AA (A8 rfl rfl ?_)
 refine Al (v := .func (.func 117) #[] #[pt w2.heap.size, pt w.heap.size, pt w4.heap.size]) rfl rfl rfl n5.blk (by simp) (fun w6 p6 => ?_)
 repeat' first | refine nx rfl ?_ | fail
 have z1 := n1.size
 have z2 := n2.size
 have z3 := n3.size
 have z4 := p4.size
 have z5 := n5.size
 have z6 := p6.size
 have k24 : Ext w2 w4 := n3.keep.keep p4.keep (by simp)
 have k46 : Ext w4 w6 := n5.keep.keep p6.keep (by simp)
 have k26 := k24.trans k46
 have k16 := n2.keep.trans k26
 have k6 : Ext w w6 := n1.keep.trans k16
 have b4 : Blk w6 w.heap.size 169 [.func (.yield y) #[] #[]] := n1.blk.keep k16 (by simp)
 have bp : Blk w6 w1.heap.size 171 [.pointer (some ⟨b, o, none⟩), .bool false] := n2.blk.keep k26 (by simp)
 have b3 : Blk w6 w2.heap.size 172 [.slice (some ⟨w1.heap.size, 0, none⟩) 1 1] := p4.blk.keep k46 (by simp)
 have b5 : Blk w6 w4.heap.size 173 [.func (.func 117) #[] #[pt w2.heap.size, pt w.heap.size, pt w4.heap.size]] := p6.blk
 have x4 : w.heap.size ∉ X := hX' (Nat.le_refl _)
 have xp : w1.heap.size ∉ X := hX' (by omega)
 have x3 : w2.heap.size ∉ X := hX' (by omega)
 have x5 : w4.heap.size ∉ X := hX' (by omega)
 replace hG := hG.ext k6
 replace hf := hf.keep k6 (fun _ _ => by simp)
 replace hJ := H.ext hJ k6
 clear c1 n1 n2 n3 p4 n5 p6
 refine BE (α := Nat) (fun k => [(3, pt w2.heap.size), (4, pt w4.heap.size)]) (fun k W => k ≤ 1 ∧ Keep X w W ∧ (k = 1 → J [] W) ∧ (k = 0 → J (preF false f) W) ∧ GF W ∧ PF (fun b => b ∉ X ∧ b < w.heap.size) W b o f ∧ Blk W w2.heap.size 172 [.slice (some ⟨w1.heap.size, 0, none⟩) k 1] ∧
  Blk W w1.heap.size 171 [.pointer (some ⟨b, o, none⟩), .bool false] ∧ Blk W w.heap.size 169 [.func (.yield y) #[] #[]] ∧ Blk W w4.heap.size 173 [.func (.func 117) #[] #[pt w2.heap.size, pt w.heap.size, pt w4.heap.size]]) (fun k => k) 1 ⟨rfl, rfl, trivial⟩
  ⟨by omega, k6.any, fun _ => hJ, fun h => by omega, hG, hf, b3, bp, b4, b5⟩ ?_
 clear b3 bp b4 b5 hG hf hJ
 rintro k W fr ⟨hk, kW, hJ1, hJ0, hGW, hfW, b3, bp, b4, b5⟩
 repeat' first | refine nx rfl ?_ | fail
 by_cases hk0 : k = 0
 ·subst hk0
  (refine AA ?_ <;> refine AG rfl (Blk.cell (by assumption) (by rfl)) ?_ <;> refine Ao rfl ?_ <;> (refine Bn rfl rfl (fun hc => ?_) (fun hc => ?_) <;> try omega))
  repeat' first | refine nx rfl ?_ | refine nf rfl ?_
  exact Au rfl ⟨kW, .inl (hJ0 rfl)⟩
 obtain rfl : k = 1 := by omega
 (refine AA ?_ <;> refine AG rfl (Blk.cell (by assumption) (by rfl)) ?_ <;> refine Ao rfl ?_ <;> (refine Bn rfl rfl (fun hc => ?_) (fun hc => ?_) <;> try omega))
 repeat' first | refine nx rfl ?_ | fail
 (refine AA ?_ <;> refine AG rfl (Blk.cell (by assumption) (by rfl)) ?_ <;> refine AG rfl (Blk.cell (by assumption) (by rfl)) ?_ <;> refine Ao rfl ?_ <;> refine W_sub rfl rfl (by first | exact Ah (by omega) (by omega) | exact Aq (by omega) (by omega) | exact Ai (by omega) (by omega)) ?_)
 refine BP (k := 0) rfl rfl rfl (by omega) ?_
 refine AW rfl bp rfl ?_
 refine A7 (cs := [.pointer (some ⟨b, o, none⟩), .bool false]) rfl rfl (by rfl) (BX rfl) (fun w7 n7 => ?_)
 refine AE ?_
 have l3 := b3.lt
 have b37 := b3.keep n7.keep (by simp)
 have z7 := n7.size
 repeat' first | refine nx rfl ?_ | fail
 (refine AA ?_ <;> refine AG rfl (Blk.cell (by assumption) (by rfl)) ?_ <;> refine AG rfl (Blk.cell (by assumption) (by rfl)) ?_ <;> refine Ao rfl ?_ <;> refine W_sub rfl rfl (by first | exact Ah (by omega) (by omega) | exact Aq (by omega) (by omega) | exact Ai (by omega) (by omega)) ?_)
 refine W_slice_h rfl rfl (by omega) (by omega) ?_
 refine Al (v := .slice (some ⟨w1.heap.size, 0, none⟩) 0 1) rfl rfl rfl b37 (by simp) (fun w8 p8 => ?_)
 repeat' first | refine nx rfl ?_ | fail
 have b7 := n7.blk.keep p8.keep (by simp; omega)
 have k78 : Keep [w2.heap.size] W w8 := (n7.keep.mono (fun _ h => by cases h)).trans p8.keep (fun _ h _ => h)
 have m24 : w.heap.size ≠ w2.heap.size := by omega
 have m25 : w4.heap.size ≠ w2.heap.size := by omega
 have bp8 := bp.keep k78 (by simp; omega)
 have b48 := b4.keep k78 (by simp; omega)
 have b58 := b5.keep k78 (by simp; omega)
 have hG8 := hGW.keep k78 (fun x hx => by simp at hx; omega)
 have hf8 := hfW.keep k78 (fun x hx => by have := hx.2; simp; omega)
 have hJ8 := H.keep (hJ1 rfl) k78 (fun x hx => by simp at hx; omega)
 have kW8 : Keep X w w8 := kW.trans k78 (fun x hx h => by simp at hx; omega)
 have e0 : w8.cell? ⟨W.heap.size, 0 + 0, none⟩ = some (.pointer (some ⟨b, o, none⟩)) := b7.cell rfl
 have e1 : w8.cell? ⟨W.heap.size, 0 + 1, none⟩ = some (.bool false) := b7.cell rfl
 (refine AA ?_ <;> refine AG rfl (Blk.cell (by assumption) (by rfl)) ?_ <;> refine AD rfl ?_ <;> refine AG rfl (Blk.cell (by assumption) (by rfl)) ?_ <;> refine AD rfl ?_ <;> refine AG rfl (Blk.cell (by assumption) (by rfl)) ?_)
 refine Bo (v1 := []) (v2 := [pt w2.heap.size, pt w.heap.size, pt w4.heap.size]) (vs := [.pointer (some ⟨b, o, none⟩), .bool false, .int .i64 0]) rfl (visit_ok H w2.heap.size w.heap.size w4.heap.size x4 x5 (dpF f) w8 b o f false 0 [] (Nat.le_refl _) (by omega) hf8 hG8 b48 b58 hJ8 (by simp)) rfl ?_
 rintro _ w9 ⟨k9, hr⟩
 have b39 := p8.blk.keep k9 x3
 have kW9 : Keep X w w9 := kW8.trans k9 (fun _ h _ => h)
 rcases hr with ⟨rfl, hJ9⟩ | ⟨rfl, M, hM1, hM2, hD⟩
 ·(refine A4 rfl ?_)
  repeat' first | refine nx rfl ?_ | refine nf rfl ?_
  refine ⟨0, ⟨rfl, ⟨rfl, rfl, trivial⟩, ⟨by omega, kW9, fun h => by omega, fun _ => by simpa using hJ9, hG8.keep k9 H.glob, hf8.keep k9 (fun _ h => h.1), b39, bp8.keep k9 xp, b48.keep k9 x4, b58.keep k9 x5⟩⟩, by omega⟩
 ·(refine A4 rfl ?_)
  repeat' first | refine nx rfl ?_ | fail
  exact fin_ret0 rfl ⟨kW9, .inr ⟨M, hM1, hM2, by simpa using hD⟩⟩
theorem nodes_ok (w : World) (b o : Nat) : Fn Tryz.prog 71 [.pointer (some ⟨b, o, none⟩)] w fun v w' => v = .func (.func 116) #[] #[pt w.heap.size] ∧ New w w' 76 [.pointer (some ⟨b, o, none⟩)] := by
 refine Aa Tryz.func71 rfl Tryz.ntmps71 (Nat.le_of_ble_eq_true rfl) (by kernel_rfl) ?_
 repeat' first | refine nx rfl ?_ | fail
 (refine AA ?_; refine BL (L := [.pointer (some ⟨b, o, none⟩)]) rfl (fun w1 n1 => ?_))
 ((refine AB ?_; refine At ?_))
 repeat' first | refine nx rfl ?_ | fail
 (refine AA (A8 rfl rfl (AB ?_)) <;> refine CT rfl ?_)
 repeat' first | refine nx rfl ?_ | fail
 exact AL rfl ⟨rfl, n1⟩
theorem preF_len : ∀ f i, (preF i f).length = szF f
 | .mk op nm v b args, i => by
  simp only [preF, szF, List.length_cons, preL_len args]
where preL_len : ∀ (l : List Fml) (i : Bool), (Ct i l).length = szL l
 | [], _ => rfl
 | f :: l, i => by simp only [Ct, szL, List.length_append, preF_len f i, preL_len l i]
theorem fsize_ok (w : World) (v : Value) (f : Fml) (hf : FAt Aw w v f) (hG : GF w) (hN : 10 ≤ w.heap.size) (hd : dpF f ≤ 5000) (hz : szF f ≤ 1000000) : Fn Tryz.prog 39 [v] w fun u w' => u = .int .i64 (szF f : Int) ∧ Ext w w' := by
 have hflt := hf.lt
 obtain ⟨cs, rfl, hcs, hone⟩ := hf.cells
 refine fn_of_wcD Tryz.func39 rfl Tryz.ntmps39 (Nat.le_of_ble_eq_true rfl) (by kernel_rfl) ?_
 repeat' first | refine nx rfl ?_ | fail
 (refine AA ?_; refine BL (L := cs) rfl (fun w1 n1 => ?_))
 ((refine AB ?_; refine AI rfl ?_))
 repeat' first | refine nx rfl ?_ | fail
 (refine AA ?_; refine Av (fun w2 n2 => ?_))
 refine Al (v := .int .i64 0) rfl rfl rfl n2.blk (by simp) (fun w3 p3 => ?_)
 repeat' first | refine nx rfl ?_ | fail
 have z1 := n1.size
 have z2 := n2.size
 have z3 := p3.size
 have k23 := n2.keep.keep p3.keep (by simp)
 have k3 : Ext w w3 := n1.keep.trans k23
 have b1 := n1.blk.keep k23 (by simp)
 have b2 : Blk w3 w1.heap.size 3 [.int .i64 0] := p3.blk
 have hf3 : PF (fun b => b < w1.heap.size) w3 w.heap.size 0 f := ⟨by omega, cs, hcs, b1.cells, (hflt.ext k3).mono fun x hx => by have := hx.2; omega⟩
 (refine AA ?_)
 refine AR (nodes_ok w3 _ _) rfl ?_
 rintro _ w4 ⟨rfl, n4⟩
 repeat' first | refine nx rfl ?_ | fail
 have z4 := n4.size
 replace b2 := b2.keep n4.keep (by simp)
 replace hf3 := hf3.keep n4.keep (fun _ _ => by simp)
 have b4 := n4.blk
 have k4 : Ext w w4 := k3.trans n4.keep
 refine C_range [] [pt w3.heap.size] rfl (by kernel_rfl) fun Rdy Bsy Don w6 HL k6 s6 m6 r6 => ?_
 replace b2 := b2.keep k6 (by simp)
 replace b4 := b4.keep k6 (by simp)
 replace hf3 := hf3.keep k6 (fun _ _ => by simp)
 have e6 : Ext w w6 := k4.trans k6
 have hlen : w6.heap.size = w.heap.size + 5 := by omega
 obtain ⟨J, hJ⟩ : ∃ J : List Nd → World → Prop, ∀ l W, J l W ↔ (Ext w W ∧ Blk W w1.heap.size 3 [.int .i64 l.length] ∧ Rdy W ∧ W.heap[w4.heap.size]? = some (.deferred (some [])) ) := ⟨_, fun _ _ => Iff.rfl⟩
 have H : NodesR (.func (.yield (w4.heap.size + 1)) #[] #[]) [w1.heap.size, w4.heap.size + 1] w6.heap.size (preF false f) J (fun _ _ => False) := by
  refine ⟨⟨_, rfl⟩, fun x hx => by simp at hx; omega, fun hj k hY => ?_, fun {L W b o g i} hj hp hP => ?_⟩
  ·obtain ⟨j1, j2, j3, j4⟩ := (hJ _ _).1 hj
   exact (hJ _ _).2 ⟨j1.keep k (fun x hx => by have := hY x hx; omega), j2.keep k (fun h => by have := hY _ h; omega), HL.rdy j3 k (fun h => by have := hY _ h; omega), (k.block _ (by have := HL.lt j3; omega) (fun h => by have := hY _ h; omega)).trans j4⟩
  ·obtain ⟨j1, j2, j3, j4⟩ := (hJ _ _).1 hj
   have hlt := HL.lt j3
   have hLl : L.length + 1 ≤ 1000000 := by
    have := hP.length_le
    rw [preF_len] at this
    simp at this; omega
   refine YldP.mono (R := fun v W' => v = .bool true ∧ Keep [w1.heap.size, w4.heap.size + 1] W W' ∧ J (L ++ [(g, i)]) W') (Y := fun _ _ => False) (HL.round j3 rfl ?_) (fun v W' h => ⟨h.2.1, .inl ⟨h.1, h.2.2⟩⟩) (fun _ _ h => h)
   repeat' first | refine nx rfl ?_ | fail
   refine ⟨j3, fun W2 q2 y2s y2 => ?_⟩
   replace j2 := j2.keep q2 (by simp; omega)
   replace j4 := (q2.block _ (by omega) (by simp)).trans j4
   have e2 := j1.keep q2 (by simp; omega)
   have q2' : Keep [w1.heap.size, w4.heap.size + 1] W W2 := q2.mono (fun x hx => by simp at hx; simp [hx])
   repeat' first | refine nx rfl ?_ | fail
   (refine AA ?_ <;> refine AG rfl (Blk.cell (by assumption) (by rfl)) ?_ <;> refine BD rfl rfl (by first | exact Ah (by omega) (by omega) | exact Aq (by omega) (by omega) | exact Ai (by omega) (by omega)) ?_)
   refine Al (v := .int .i64 ((L.length : Int) + 1)) rfl rfl rfl j2 (by simp) (fun W3 p3 => ?_)
   obtain ⟨q3, z3, y3⟩ := p3
   replace j4 := (q3.block _ (by omega) (by simp; omega)).trans j4
   replace e2 := e2.keep q3 (by simp; omega)
   replace y2 := HL.bsy y2 q3 (by simp; omega)
   have q3' : Keep [w1.heap.size, w4.heap.size + 1] W W3 := q2'.trans q3 (fun x hx _ => by simp at hx; simp [hx])
   repeat' first | refine nx rfl ?_ | fail
   refine Q_rnd y2 fun W5 q5 z5 y5 => ⟨rfl, q3'.trans q5 (fun x hx _ => by simp at hx; simp [hx]), (hJ _ _).2 ⟨e2.keep q5 (by simp; omega), ?_, y5, (q5.block _ (by omega) (by simp)).trans j4⟩⟩
   rw [show ((L ++ [(g, i)]).length : Int) = (L.length : Int) + 1 by simp]
   exact y3.keep q5 (by simp; omega)
 refine Fn.mono (nodesIt_ok w6 w3.heap.size w.heap.size 0 f H b4 (hf3.mono fun x hx => by simp; omega) (hG.ext e6) (Nat.le_trans hN e6.size) hd ((hJ _ _).2 ⟨e6, b2, r6, m6⟩) (fun x hx => by simp at hx; omega)) ?_
 rintro v w7 ⟨_, hj | ⟨_, _, _, hh⟩⟩
 case inr => exact hh.elim
 obtain ⟨j1, j2, j3, j4⟩ := (hJ _ _).1 hj
 have hlt := HL.lt j3
 refine .inl ⟨j3, fun w8 k8 s8 => ?_⟩
 clear hJ H hj HL r6 m6 b4
 replace j2 := j2.keep k8 (by simp; omega)
 replace j4 := (k8.block _ (by omega) (by simp)).trans j4
 have e8 := j1.keep k8 (by simp; omega)
 rw [preF_len] at j2
 repeat' first | refine nx rfl ?_ | fail
 (refine AA ?_ <;> refine AG rfl (Blk.cell (by assumption) (by rfl)) ?_ <;> refine AB (AI rfl ?_))
 repeat' first | refine nx rfl ?_ | fail
 refine finD_mark j4 fun w9 k9 s9 => ?_
 exact finD_ret1 rfl ⟨rfl, e8.keep k9 (by simp; omega)⟩
end Go.Proofs.YtfcgdbmoncnibaaGreatDoor
namespace Go.Proofs.YtfcgdbmoncnibaaGreatDoor
open Go.RowKit
set_option linter.unusedVariables false
theorem madeReq3 : (madeCells (Value.agg #[AM [], AM [], .int .i64 0, .int .i64 0, AM [], .int .i64 0, .int .i64 0, .slice none 0 0]).cells (3 * 8)).toList = [AM [], AM [], .int .i64 0, .int .i64 0, AM [], .int .i64 0, .int .i64 0, .slice none 0 0, AM [], AM [], .int .i64 0, .int .i64 0, AM [], .int .i64 0, .int .i64 0, .slice none 0 0, AM [], AM [], .int .i64 0, .int .i64 0, AM [], .int .i64 0, .int .i64 0, .slice none 0 0] := by kernel_rfl
def exF : Fml := ⟨12, [], 0, 0, [⟨7, [], 0, 0, [isF [114] 1, ⟨13, [], 0, 3, [isF [103] 1]⟩]⟩]⟩
def exT : Fml := ⟨1, [], 0, 0, []⟩
def exS : Spc := ⟨[⟨[114], true, 2⟩, ⟨[103], false, 3⟩], [⟨[112], [111, 110, 101], 2, exF⟩, ⟨[112], [116, 119, 111], 1, exT⟩, ⟨[113], [111, 110, 101], 2, isF [103] 2⟩]⟩
theorem FAt.fives {ok : Nat → Prop} {w : World} {v : Value} {f : Fml} (h : FAt ok w v f) : ∃ c0 c1 c2 c3 c4, v = .agg [c0, c1, c2, c3, c4].toArray ∧ oneC [c0, c1, c2, c3, c4] := by
 obtain ⟨cs, rfl, hcs, hone⟩ := FAt.cells h
 obtain ⟨c0, c1, c2, c3, c4, rfl⟩ := CD hcs
 exact ⟨_, _, _, _, _, rfl, hone⟩
theorem example_ok (w : World) : Fn Tryz.prog 32 [] w fun v w' => ∃ c, v = .agg c.toArray ∧ spcR.fits Aw w' c exS ∧ Ext w w' := by
 refine Aa Tryz.func32 rfl Tryz.ntmps32 (Nat.le_of_ble_eq_true rfl) (by kernel_rfl) ?_
 repeat' first | refine nx rfl ?_ | fail
 (refine AA ?_; refine Av (fun w1 n1 => ?_))
 have b0 : Blk w1 w.heap.size 28 [.slice none 0 0, .slice none 0 0] := n1.blk
 have z1 := n1.size
 repeat' first | refine nx rfl ?_ | fail
 (refine AA ?_)
 refine AR (ris_ok w1 [114] 1) rfl ?_
 rintro vr w2 ⟨k2, fr⟩
 refine AR (ris_ok w2 [103] 1) rfl ?_
 rintro vg w3 ⟨k3, fg⟩
 obtain ⟨g0, g1, g2, g3, g4, rfl, og⟩ := FV.five fg
 refine AV (out := [g0, g1, g2, g3, g4]) rfl (by omega) (by rw [made5]; rfl) (fun w4 n4 => ?_)
 have z4 : w.heap.size < w3.heap.size := by have := k2.size; have := k3.size; omega
 obtain ⟨S4, F4⟩ := FsAt.fresh (ok := fun b => b ≠ w.heap.size) (L := [[g0, g1, g2, g3, g4]]) n4 (FsAt.one (fg.any rfl) rfl) (by simp; omega) (by simp)
 (refine Ac (by rfl) (by rfl) ?_)
 refine AR (rtwoX_ok w4 7 (fun b => b ≠ w.heap.size) _ _ (isF [114] 1) ⟨13, [], 0, 3, [isF [103] 1]⟩ (fr.any rfl) (FAt.node 13 [] 0 3 S4 F4) (fun x hx => by have := n4.keep.size; omega)) rfl ?_
 rintro va w5 ⟨k5, fa⟩
 refine AR (roneX_ok w5 12 (fun b => b ≠ w.heap.size) _ _ fa (by have := k5.size; have := n4.keep.size; omega) (fun x hx => by have := k5.size; have := n4.keep.size; omega)) rfl ?_
 rintro vf w6 ⟨k6, fF⟩
 obtain ⟨f0, f1, f2, f3, f4, rfl, of⟩ := FAt.fives fF
 refine A7 (cs := [f0, f1, f2, f3, f4]) rfl rfl (by rfl) of (fun w7 n7 => ?_)
 have z6 : w.heap.size < w6.heap.size := by have := k6.size; have := k5.size; have := n4.keep.size; omega
 have b7 := n7.blk
 have k7 : Ext w1 w7 := ((((k2.trans k3).trans n4.keep).trans k5).trans k6).trans n7.keep
 replace b0 := b0.keep k7 (by simp)
 replace fF := fF.ext n7.keep
 clear fr fg fa S4 F4
 repeat' first | refine nx rfl ?_ | fail
 refine BA (.read 0 (.read 1 (.read 3 (.read 4 (.alt 2 (.alt 5 (.read 6 (.alt 7 (.read 8 (.alt 9 (.read 10 (.alt 11 .done .stop)) .stop)) .stop)) .stop) (.alt 5 (.read 6 (.alt 2 (.alt 7 (.read 8 (.alt 9 (.read 10 (.alt 11 .done .stop)) .stop)) .stop) (.alt 7 (.read 8 (.alt 2 (.alt 9 (.read 10 (.alt 11 .done .stop)) .stop) (.alt 9 (.alt 2 (.read 10 (.alt 11 .done .stop)) .stop) .stop))) .stop))) .stop)))))) A6 (by kernel_rfl) (fun wd kd ed => ⟨Keep [w.heap.size] wd, ?_, ?_⟩)
 ·exact Keep.refl _ _
 have ca : ∀ W, Keep [w.heap.size] wd W → Cells W w6.heap.size 0 [f0, f1, f2, f3, f4] := fun W e => ((b7.keep kd (by simp)).keep e (by simp; omega)).cells
 replace fF := fF.ext kd
 replace b0 := b0.keep kd (by simp)
 have k0 := k7.trans kd
 have lz := k0.size
 have er : Ext wd wd := Ext.refl _
 ((apply D_R rfl rfl; (intro W hW; refine Ac (by rfl) (by rfl) ?_; exact AE ⟨rfl, rfl, rfl⟩)) <;> (apply D_R rfl rfl; (intro W hW; refine Ac (by rfl) (by rfl) ?_; exact AE ⟨rfl, rfl, rfl⟩)) <;> (apply D_R rfl rfl; (intro W hW; refine AU rfl (by rfl) (ca W hW) ?_; exact AE ⟨rfl, rfl, rfl⟩)) <;> (apply D_R rfl rfl; (intro W hW; refine Ac (by rfl) (by rfl) ?_; exact AE ⟨rfl, rfl, rfl⟩)))
 refine D_A rfl ?_ ?_
 ·refine AV (out := B7 ⟨[114], true, 2⟩ ++ B7 ⟨[103], false, 3⟩) rfl (by omega) (by rw [madeSgn2]; rfl) (fun v2 m2 => ?_)
  have bs := m2.blk
  have e2 := er.trans m2.keep
  have l2 := e2.size
  replace fF := fF.ext m2.keep
  try replace ft := ft.ext m2.keep
  try replace fq := fq.ext m2.keep
  try replace br := br.keep m2.keep (by simp)
  refine AE ⟨Keep [w.heap.size] wd, fun _ e => e, e2.any, ?_⟩
  refine D_E rfl ?_
  refine AR (rtrue_ok v2) rfl ?_
  rintro vt v5 ⟨q5, ft⟩
  obtain ⟨t0, t1, t2, t3, t4, rfl, ot⟩ := FV.five ft
  have e5 := e2.trans q5
  have l5 := e5.size
  replace fF := fF.ext q5
  try replace bs := bs.keep q5 (by simp)
  refine AE ⟨Keep [w.heap.size] wd, fun _ e => e, e5.any, ?_⟩
  ((apply D_R rfl rfl; (intro W hW; refine Ac (by rfl) (by rfl) ?_; exact AE ⟨rfl, rfl, rfl⟩)))
  refine D_E rfl ?_
  refine AR (ris_ok v5 [103] 2) rfl ?_
  rintro vq v7 ⟨q7, fq⟩
  obtain ⟨q0, q1, q2, q3, q4, rfl, oq⟩ := FV.five fq
  have e7 := e5.trans q7
  have l7 := e7.size
  replace fF := fF.ext q7
  replace ft := ft.ext q7
  try replace bs := bs.keep q7 (by simp)
  refine AE ⟨Keep [w.heap.size] wd, fun _ e => e, e7.any, ?_⟩
  ((apply D_R rfl rfl; (intro W hW; refine Ac (by rfl) (by rfl) ?_; exact AE ⟨rfl, rfl, rfl⟩)))
  refine D_E rfl ?_
  refine AV (out := [AM [112], AM [111, 110, 101], .int .i64 2] ++ [f0, f1, f2, f3, f4] ++ ([AM [112], AM [116, 119, 111], .int .i64 1] ++ [t0, t1, t2, t3, t4]) ++ ([AM [113], AM [111, 110, 101], .int .i64 2] ++ [q0, q1, q2, q3, q4])) rfl (by omega) (by rw [madeReq3]; rfl) (fun v9 m9 => ?_)
  have br := m9.blk
  have e9 := e7.trans m9.keep
  have l9 := e9.size
  replace fF := fF.ext m9.keep
  replace ft := ft.ext m9.keep
  replace fq := fq.ext m9.keep
  try replace bs := bs.keep m9.keep (by simp)
  refine AE ⟨Keep [w.heap.size] wd, fun _ e => e, e9.any, ?_⟩
  ((apply D_R rfl rfl; (intro W hW; refine Ac (by rfl) (by rfl) ?_; exact AE ⟨rfl, rfl, rfl⟩)))
  refine D_E rfl ?_
  have sz := e9.size
  have ls : w.heap.size < wd.heap.size := by omega
  have lr : w.heap.size < v7.heap.size := by omega
  refine Ad (cs := [.slice (some ⟨wd.heap.size, 0, none⟩) 2 2, .slice (some ⟨v7.heap.size, 0, none⟩) 3 3]) rfl rfl rfl (BX rfl) (b0.keep e9 (by simp)) (by simp) (fun vz pz => ?_)
  have bz : Blk vz w.heap.size 28 [.slice (some ⟨wd.heap.size, 0, none⟩) 2 2, .slice (some ⟨v7.heap.size, 0, none⟩) 3 3] := pz.blk
  have kz : Keep [w.heap.size] wd vz := (e9.any).trans pz.keep (fun _ h _ => h)
  refine AE ⟨Keep [w.heap.size] wd, fun _ e => e, kz, ?_⟩
  refine A0 ?_
  repeat' first | refine nx rfl ?_ | fail
  refine A2 rfl rfl rfl bz.cells ⟨_, rfl, ?_, (n1.keep.trans k0).keep kz (by simp)⟩
  replace fF := (fF.keep pz.keep (fun b hb => by simpa using hb)).mono (ok' := Aw) fun _ _ => trivial
  replace ft := (FAt.any (ok' := fun b => b ≠ w.heap.size) (w' := vz) ft rfl).mono (ok' := Aw) fun _ _ => trivial
  replace fq := (FAt.any (ok' := fun b => b ≠ w.heap.size) (w' := vz) fq rfl).mono (ok' := Aw) fun _ _ => trivial
  refine ⟨_, _, rfl, ⟨_, _, [B7 ⟨[114], true, 2⟩, B7 ⟨[103], false, 3⟩], rfl, ?_, ?_⟩, ⟨_, _, [[AM [112], AM [111, 110, 101], .int .i64 2] ++ [f0, f1, f2, f3, f4], [AM [112], AM [116, 119, 111], .int .i64 1] ++ [t0, t1, t2, t3, t4], [AM [113], AM [111, 110, 101], .int .i64 2] ++ [q0, q1, q2, q3, q4]], rfl, ?_, ?_⟩⟩
  ·exact ⟨_, _, rfl, Nat.le_refl _, by simp, (fun h => by cases h), .inr ⟨_, _, rfl, trivial, (bs.keep pz.keep (by simp; omega)).cells⟩⟩
  ·exact (RsAt.one (R := sgnR) rfl).app (RsAt.one (R := sgnR) rfl)
  ·exact ⟨_, _, rfl, Nat.le_refl _, by simp, (fun h => by cases h), .inr ⟨_, _, rfl, trivial, (br.keep pz.keep (by simp; omega)).cells⟩⟩
  ·exact ((RsAt.one (R := reqR) (c := [AM [112], AM [111, 110, 101], .int .i64 2] ++ [f0, f1, f2, f3, f4]) ⟨_, rfl, rfl, fF⟩).app (RsAt.one (R := reqR) (c := [AM [112], AM [116, 119, 111], .int .i64 1] ++ [t0, t1, t2, t3, t4]) ⟨_, rfl, rfl, ft⟩)).app (RsAt.one (R := reqR) (c := [AM [113], AM [111, 110, 101], .int .i64 2] ++ [q0, q1, q2, q3, q4]) ⟨_, rfl, rfl, fq⟩)
 ·refine D_E rfl ?_
  refine AR (rtrue_ok wd) rfl ?_
  rintro vt v5 ⟨q5, ft⟩
  obtain ⟨t0, t1, t2, t3, t4, rfl, ot⟩ := FV.five ft
  have e5 := er.trans q5
  have l5 := e5.size
  replace fF := fF.ext q5
  try replace bs := bs.keep q5 (by simp)
  refine AE ⟨Keep [w.heap.size] wd, fun _ e => e, e5.any, ?_⟩
  ((apply D_R rfl rfl; (intro W hW; refine Ac (by rfl) (by rfl) ?_; exact AE ⟨rfl, rfl, rfl⟩)))
  refine D_A rfl ?_ ?_
  ·refine AV (out := B7 ⟨[114], true, 2⟩ ++ B7 ⟨[103], false, 3⟩) rfl (by omega) (by rw [madeSgn2]; rfl) (fun v2 m2 => ?_)
   have bs := m2.blk
   have e2 := e5.trans m2.keep
   have l2 := e2.size
   replace fF := fF.ext m2.keep
   try replace ft := ft.ext m2.keep
   try replace fq := fq.ext m2.keep
   try replace br := br.keep m2.keep (by simp)
   refine AE ⟨Keep [w.heap.size] wd, fun _ e => e, e2.any, ?_⟩
   refine D_E rfl ?_
   refine AR (ris_ok v2 [103] 2) rfl ?_
   rintro vq v7 ⟨q7, fq⟩
   obtain ⟨q0, q1, q2, q3, q4, rfl, oq⟩ := FV.five fq
   have e7 := e2.trans q7
   have l7 := e7.size
   replace fF := fF.ext q7
   replace ft := ft.ext q7
   try replace bs := bs.keep q7 (by simp)
   refine AE ⟨Keep [w.heap.size] wd, fun _ e => e, e7.any, ?_⟩
   ((apply D_R rfl rfl; (intro W hW; refine Ac (by rfl) (by rfl) ?_; exact AE ⟨rfl, rfl, rfl⟩)))
   refine D_E rfl ?_
   refine AV (out := [AM [112], AM [111, 110, 101], .int .i64 2] ++ [f0, f1, f2, f3, f4] ++ ([AM [112], AM [116, 119, 111], .int .i64 1] ++ [t0, t1, t2, t3, t4]) ++ ([AM [113], AM [111, 110, 101], .int .i64 2] ++ [q0, q1, q2, q3, q4])) rfl (by omega) (by rw [madeReq3]; rfl) (fun v9 m9 => ?_)
   have br := m9.blk
   have e9 := e7.trans m9.keep
   have l9 := e9.size
   replace fF := fF.ext m9.keep
   replace ft := ft.ext m9.keep
   replace fq := fq.ext m9.keep
   try replace bs := bs.keep m9.keep (by simp)
   refine AE ⟨Keep [w.heap.size] wd, fun _ e => e, e9.any, ?_⟩
   ((apply D_R rfl rfl; (intro W hW; refine Ac (by rfl) (by rfl) ?_; exact AE ⟨rfl, rfl, rfl⟩)))
   refine D_E rfl ?_
   have sz := e9.size
   have ls : w.heap.size < v5.heap.size := by omega
   have lr : w.heap.size < v7.heap.size := by omega
   refine Ad (cs := [.slice (some ⟨v5.heap.size, 0, none⟩) 2 2, .slice (some ⟨v7.heap.size, 0, none⟩) 3 3]) rfl rfl rfl (BX rfl) (b0.keep e9 (by simp)) (by simp) (fun vz pz => ?_)
   have bz : Blk vz w.heap.size 28 [.slice (some ⟨v5.heap.size, 0, none⟩) 2 2, .slice (some ⟨v7.heap.size, 0, none⟩) 3 3] := pz.blk
   have kz : Keep [w.heap.size] wd vz := (e9.any).trans pz.keep (fun _ h _ => h)
   refine AE ⟨Keep [w.heap.size] wd, fun _ e => e, kz, ?_⟩
   refine A0 ?_
   repeat' first | refine nx rfl ?_ | fail
   refine A2 rfl rfl rfl bz.cells ⟨_, rfl, ?_, (n1.keep.trans k0).keep kz (by simp)⟩
   replace fF := (fF.keep pz.keep (fun b hb => by simpa using hb)).mono (ok' := Aw) fun _ _ => trivial
   replace ft := (FAt.any (ok' := fun b => b ≠ w.heap.size) (w' := vz) ft rfl).mono (ok' := Aw) fun _ _ => trivial
   replace fq := (FAt.any (ok' := fun b => b ≠ w.heap.size) (w' := vz) fq rfl).mono (ok' := Aw) fun _ _ => trivial
   refine ⟨_, _, rfl, ⟨_, _, [B7 ⟨[114], true, 2⟩, B7 ⟨[103], false, 3⟩], rfl, ?_, ?_⟩, ⟨_, _, [[AM [112], AM [111, 110, 101], .int .i64 2] ++ [f0, f1, f2, f3, f4], [AM [112], AM [116, 119, 111], .int .i64 1] ++ [t0, t1, t2, t3, t4], [AM [113], AM [111, 110, 101], .int .i64 2] ++ [q0, q1, q2, q3, q4]], rfl, ?_, ?_⟩⟩
   ·exact ⟨_, _, rfl, Nat.le_refl _, by simp, (fun h => by cases h), .inr ⟨_, _, rfl, trivial, (bs.keep pz.keep (by simp; omega)).cells⟩⟩
   ·exact (RsAt.one (R := sgnR) rfl).app (RsAt.one (R := sgnR) rfl)
   ·exact ⟨_, _, rfl, Nat.le_refl _, by simp, (fun h => by cases h), .inr ⟨_, _, rfl, trivial, (br.keep pz.keep (by simp; omega)).cells⟩⟩
   ·exact ((RsAt.one (R := reqR) (c := [AM [112], AM [111, 110, 101], .int .i64 2] ++ [f0, f1, f2, f3, f4]) ⟨_, rfl, rfl, fF⟩).app (RsAt.one (R := reqR) (c := [AM [112], AM [116, 119, 111], .int .i64 1] ++ [t0, t1, t2, t3, t4]) ⟨_, rfl, rfl, ft⟩)).app (RsAt.one (R := reqR) (c := [AM [113], AM [111, 110, 101], .int .i64 2] ++ [q0, q1, q2, q3, q4]) ⟨_, rfl, rfl, fq⟩)
  ·refine D_E rfl ?_
   refine AR (ris_ok v5 [103] 2) rfl ?_
   rintro vq v7 ⟨q7, fq⟩
   obtain ⟨q0, q1, q2, q3, q4, rfl, oq⟩ := FV.five fq
   have e7 := e5.trans q7
   have l7 := e7.size
   replace fF := fF.ext q7
   replace ft := ft.ext q7
   try replace bs := bs.keep q7 (by simp)
   refine AE ⟨Keep [w.heap.size] wd, fun _ e => e, e7.any, ?_⟩
   ((apply D_R rfl rfl; (intro W hW; refine Ac (by rfl) (by rfl) ?_; exact AE ⟨rfl, rfl, rfl⟩)))
   refine D_A rfl ?_ ?_
   ·refine AV (out := B7 ⟨[114], true, 2⟩ ++ B7 ⟨[103], false, 3⟩) rfl (by omega) (by rw [madeSgn2]; rfl) (fun v2 m2 => ?_)
    have bs := m2.blk
    have e2 := e7.trans m2.keep
    have l2 := e2.size
    replace fF := fF.ext m2.keep
    try replace ft := ft.ext m2.keep
    try replace fq := fq.ext m2.keep
    try replace br := br.keep m2.keep (by simp)
    refine AE ⟨Keep [w.heap.size] wd, fun _ e => e, e2.any, ?_⟩
    refine D_E rfl ?_
    refine AV (out := [AM [112], AM [111, 110, 101], .int .i64 2] ++ [f0, f1, f2, f3, f4] ++ ([AM [112], AM [116, 119, 111], .int .i64 1] ++ [t0, t1, t2, t3, t4]) ++ ([AM [113], AM [111, 110, 101], .int .i64 2] ++ [q0, q1, q2, q3, q4])) rfl (by omega) (by rw [madeReq3]; rfl) (fun v9 m9 => ?_)
    have br := m9.blk
    have e9 := e2.trans m9.keep
    have l9 := e9.size
    replace fF := fF.ext m9.keep
    replace ft := ft.ext m9.keep
    replace fq := fq.ext m9.keep
    try replace bs := bs.keep m9.keep (by simp)
    refine AE ⟨Keep [w.heap.size] wd, fun _ e => e, e9.any, ?_⟩
    ((apply D_R rfl rfl; (intro W hW; refine Ac (by rfl) (by rfl) ?_; exact AE ⟨rfl, rfl, rfl⟩)))
    refine D_E rfl ?_
    have sz := e9.size
    have ls : w.heap.size < v7.heap.size := by omega
    have lr : w.heap.size < v2.heap.size := by omega
    refine Ad (cs := [.slice (some ⟨v7.heap.size, 0, none⟩) 2 2, .slice (some ⟨v2.heap.size, 0, none⟩) 3 3]) rfl rfl rfl (BX rfl) (b0.keep e9 (by simp)) (by simp) (fun vz pz => ?_)
    have bz : Blk vz w.heap.size 28 [.slice (some ⟨v7.heap.size, 0, none⟩) 2 2, .slice (some ⟨v2.heap.size, 0, none⟩) 3 3] := pz.blk
    have kz : Keep [w.heap.size] wd vz := (e9.any).trans pz.keep (fun _ h _ => h)
    refine AE ⟨Keep [w.heap.size] wd, fun _ e => e, kz, ?_⟩
    refine A0 ?_
    repeat' first | refine nx rfl ?_ | fail
    refine A2 rfl rfl rfl bz.cells ⟨_, rfl, ?_, (n1.keep.trans k0).keep kz (by simp)⟩
    replace fF := (fF.keep pz.keep (fun b hb => by simpa using hb)).mono (ok' := Aw) fun _ _ => trivial
    replace ft := (FAt.any (ok' := fun b => b ≠ w.heap.size) (w' := vz) ft rfl).mono (ok' := Aw) fun _ _ => trivial
    replace fq := (FAt.any (ok' := fun b => b ≠ w.heap.size) (w' := vz) fq rfl).mono (ok' := Aw) fun _ _ => trivial
    refine ⟨_, _, rfl, ⟨_, _, [B7 ⟨[114], true, 2⟩, B7 ⟨[103], false, 3⟩], rfl, ?_, ?_⟩, ⟨_, _, [[AM [112], AM [111, 110, 101], .int .i64 2] ++ [f0, f1, f2, f3, f4], [AM [112], AM [116, 119, 111], .int .i64 1] ++ [t0, t1, t2, t3, t4], [AM [113], AM [111, 110, 101], .int .i64 2] ++ [q0, q1, q2, q3, q4]], rfl, ?_, ?_⟩⟩
    ·exact ⟨_, _, rfl, Nat.le_refl _, by simp, (fun h => by cases h), .inr ⟨_, _, rfl, trivial, (bs.keep pz.keep (by simp; omega)).cells⟩⟩
    ·exact (RsAt.one (R := sgnR) rfl).app (RsAt.one (R := sgnR) rfl)
    ·exact ⟨_, _, rfl, Nat.le_refl _, by simp, (fun h => by cases h), .inr ⟨_, _, rfl, trivial, (br.keep pz.keep (by simp; omega)).cells⟩⟩
    ·exact ((RsAt.one (R := reqR) (c := [AM [112], AM [111, 110, 101], .int .i64 2] ++ [f0, f1, f2, f3, f4]) ⟨_, rfl, rfl, fF⟩).app (RsAt.one (R := reqR) (c := [AM [112], AM [116, 119, 111], .int .i64 1] ++ [t0, t1, t2, t3, t4]) ⟨_, rfl, rfl, ft⟩)).app (RsAt.one (R := reqR) (c := [AM [113], AM [111, 110, 101], .int .i64 2] ++ [q0, q1, q2, q3, q4]) ⟨_, rfl, rfl, fq⟩)
   ·refine D_E rfl ?_
    refine AV (out := [AM [112], AM [111, 110, 101], .int .i64 2] ++ [f0, f1, f2, f3, f4] ++ ([AM [112], AM [116, 119, 111], .int .i64 1] ++ [t0, t1, t2, t3, t4]) ++ ([AM [113], AM [111, 110, 101], .int .i64 2] ++ [q0, q1, q2, q3, q4])) rfl (by omega) (by rw [madeReq3]; rfl) (fun v9 m9 => ?_)
    have br := m9.blk
    have e9 := e7.trans m9.keep
    have l9 := e9.size
    replace fF := fF.ext m9.keep
    replace ft := ft.ext m9.keep
    replace fq := fq.ext m9.keep
    try replace bs := bs.keep m9.keep (by simp)
    refine AE ⟨Keep [w.heap.size] wd, fun _ e => e, e9.any, ?_⟩
    refine D_E rfl ?_
    refine AV (out := B7 ⟨[114], true, 2⟩ ++ B7 ⟨[103], false, 3⟩) rfl (by omega) (by rw [madeSgn2]; rfl) (fun v2 m2 => ?_)
    have bs := m2.blk
    have e2 := e9.trans m2.keep
    have l2 := e2.size
    replace fF := fF.ext m2.keep
    try replace ft := ft.ext m2.keep
    try replace fq := fq.ext m2.keep
    try replace br := br.keep m2.keep (by simp)
    refine AE ⟨Keep [w.heap.size] wd, fun _ e => e, e2.any, ?_⟩
    ((apply D_R rfl rfl; (intro W hW; refine Ac (by rfl) (by rfl) ?_; exact AE ⟨rfl, rfl, rfl⟩)))
    refine D_E rfl ?_
    have sz := e2.size
    have ls : w.heap.size < v9.heap.size := by omega
    have lr : w.heap.size < v7.heap.size := by omega
    refine Ad (cs := [.slice (some ⟨v9.heap.size, 0, none⟩) 2 2, .slice (some ⟨v7.heap.size, 0, none⟩) 3 3]) rfl rfl rfl (BX rfl) (b0.keep e2 (by simp)) (by simp) (fun vz pz => ?_)
    have bz : Blk vz w.heap.size 28 [.slice (some ⟨v9.heap.size, 0, none⟩) 2 2, .slice (some ⟨v7.heap.size, 0, none⟩) 3 3] := pz.blk
    have kz : Keep [w.heap.size] wd vz := (e2.any).trans pz.keep (fun _ h _ => h)
    refine AE ⟨Keep [w.heap.size] wd, fun _ e => e, kz, ?_⟩
    refine A0 ?_
    repeat' first | refine nx rfl ?_ | fail
    refine A2 rfl rfl rfl bz.cells ⟨_, rfl, ?_, (n1.keep.trans k0).keep kz (by simp)⟩
    replace fF := (fF.keep pz.keep (fun b hb => by simpa using hb)).mono (ok' := Aw) fun _ _ => trivial
    replace ft := (FAt.any (ok' := fun b => b ≠ w.heap.size) (w' := vz) ft rfl).mono (ok' := Aw) fun _ _ => trivial
    replace fq := (FAt.any (ok' := fun b => b ≠ w.heap.size) (w' := vz) fq rfl).mono (ok' := Aw) fun _ _ => trivial
    refine ⟨_, _, rfl, ⟨_, _, [B7 ⟨[114], true, 2⟩, B7 ⟨[103], false, 3⟩], rfl, ?_, ?_⟩, ⟨_, _, [[AM [112], AM [111, 110, 101], .int .i64 2] ++ [f0, f1, f2, f3, f4], [AM [112], AM [116, 119, 111], .int .i64 1] ++ [t0, t1, t2, t3, t4], [AM [113], AM [111, 110, 101], .int .i64 2] ++ [q0, q1, q2, q3, q4]], rfl, ?_, ?_⟩⟩
    ·exact ⟨_, _, rfl, Nat.le_refl _, by simp, (fun h => by cases h), .inr ⟨_, _, rfl, trivial, (bs.keep pz.keep (by simp; omega)).cells⟩⟩
    ·exact (RsAt.one (R := sgnR) rfl).app (RsAt.one (R := sgnR) rfl)
    ·exact ⟨_, _, rfl, Nat.le_refl _, by simp, (fun h => by cases h), .inr ⟨_, _, rfl, trivial, (br.keep pz.keep (by simp; omega)).cells⟩⟩
    ·exact ((RsAt.one (R := reqR) (c := [AM [112], AM [111, 110, 101], .int .i64 2] ++ [f0, f1, f2, f3, f4]) ⟨_, rfl, rfl, fF⟩).app (RsAt.one (R := reqR) (c := [AM [112], AM [116, 119, 111], .int .i64 1] ++ [t0, t1, t2, t3, t4]) ⟨_, rfl, rfl, ft⟩)).app (RsAt.one (R := reqR) (c := [AM [113], AM [111, 110, 101], .int .i64 2] ++ [q0, q1, q2, q3, q4]) ⟨_, rfl, rfl, fq⟩)
end Go.Proofs.YtfcgdbmoncnibaaGreatDoor
namespace Go.Proofs.YtfcgdbmoncnibaaGreatDoor
set_option linter.unusedVariables false
variable {mk : Prop} [MK mk]
end Go.Proofs.YtfcgdbmoncnibaaGreatDoor
namespace Go.Proofs.YtfcgdbmoncnibaaGreatDoor
set_option linter.unusedVariables false
variable {mk : Prop} [MK mk]
def folB : Option UInt8 → Bool
 | none => true
 | some c => !(isLet c || A3 c || decide (c.toNat = 95))
end Go.Proofs.YtfcgdbmoncnibaaGreatDoor
namespace Go.Proofs.YtfcgdbmoncnibaaGreatDoor
set_option linter.unusedVariables false
variable {mk : Prop} [MK mk]
structure Sty where
 sign : List UInt8
 level : Nat
 first : Nat
 next : Nat
 least : Nat
 most : Nat
 val : Nat
 bound : Nat
 usual : Nat
def many : Nat := 1099511627776
def styL : List (Int × Sty) := [
 (1, ⟨[116, 114, 117, 101], 5, 0, 0, 0, 0, 0, 0, 0⟩),
 (2, ⟨[102, 97, 108, 115, 101], 5, 0, 0, 0, 0, 0, 0, 0⟩),
 (3, ⟨[61], 5, 0, 0, 0, 0, 9999, 0, 1⟩),
 (4, ⟨[33], 4, 4, 0, 1, 1, 0, 0, 0⟩),
 (5, ⟨[32, 38, 32], 2, 3, 3, 2, many, 0, 0, 0⟩),
 (6, ⟨[32, 124, 32], 1, 2, 2, 2, many, 0, 0, 0⟩),
 (7, ⟨[32, 45, 62, 32], 0, 1, 0, 2, 2, 0, 0, 0⟩),
 (8, ⟨[88, 32], 4, 4, 0, 1, 1, 0, 0, 0⟩),
 (9, ⟨[32, 85, 32], 3, 4, 3, 2, 2, 0, 0, 0⟩),
 (10, ⟨[32, 82, 32], 3, 4, 3, 2, 2, 0, 0, 0⟩),
 (11, ⟨[70, 32], 4, 4, 0, 1, 1, 0, 0, 0⟩),
 (12, ⟨[71, 32], 4, 4, 0, 1, 1, 0, 0, 0⟩),
 (13, ⟨[70, 91], 4, 4, 0, 1, 1, 0, 9999, 0⟩),
 (14, ⟨[71, 91], 4, 4, 0, 1, 1, 0, 9999, 0⟩),
 (15, ⟨[89, 32], 4, 4, 0, 1, 1, 1, 0, 0⟩),
 (16, ⟨[32, 83], 3, 4, 3, 2, 2, 9999, 0, 0⟩),
 (17, ⟨[32, 84], 3, 4, 3, 2, 2, 9999, 0, 1⟩),
 (18, ⟨[79, 32], 4, 4, 0, 1, 1, 0, 0, 0⟩),
 (19, ⟨[72, 32], 4, 4, 0, 1, 1, 0, 0, 0⟩)]
def BS (op : Int) : Option Sty := styL.lookup op
def CO (op : Int) : Sty := (BS op).getD ⟨[], 4, 0, 0, 0, 0, 0, 0, 0⟩
def digs (n : Nat) : List UInt8 := if n < 10 then [UInt8.ofNat (48 + n)] else digs (n / 10) ++ [UInt8.ofNat (48 + n % 10)]
def numT (n : Int) : List UInt8 := digs n.toNat
def sgT (op : Int) (nm : List UInt8) (v b : Int) : List UInt8 :=
 if op = 3 then (if v = 1 then nm else nm ++ [61] ++ numT v)
 else if op = 13 ∨ op = 14 then (CO op).sign ++ numT b ++ [93, 32]
 else if op = 15 then (if v = 0 then [89, 32] else [90, 32])
 else if op = 16 ∨ op = 17 then (if v = ((CO op).usual : Int) then (CO op).sign ++ [32] else (CO op).sign ++ [91] ++ numT v ++ [93, 32])
 else (CO op).sign
def wrapT (b : Bool) (s : List UInt8) : List UInt8 := if b then [40] ++ (s ++ [41]) else s
mutual
def prF : Nat → Fml → List UInt8
 | n, .mk op nm v b args => wrapT (decide ((CO op).level < n)) (prA (CO op).first (CO op).next (sgT op nm v b) args)
def prA : Nat → Nat → List UInt8 → List Fml → List UInt8
 | _, _, sg, [] => sg
 | first, next, sg, a :: l => (if l.isEmpty then sg else []) ++ (prF first a ++ prR next sg l)
def prR : Nat → List UInt8 → List Fml → List UInt8
 | _, _, [] => []
 | next, sg, a :: l => sg ++ (prF next a ++ prR next sg l)
end
def nodeOk (op : Int) (nm : List UInt8) (v b : Int) (n : Nat) : Bool := match BS op with
 | none => false
 | some s => decide (s.least ≤ n ∧ n ≤ s.most ∧ 0 ≤ v ∧ v ≤ (s.val : Int) ∧ 0 ≤ b ∧ b ≤ (s.bound : Int)) && (if op = 3 then BW nm else nm.isEmpty)
mutual
def okF : Fml → Bool
 | .mk op nm v b args => nodeOk op nm v b args.length && okL args
def okL : List Fml → Bool
 | [] => true
 | a :: l => okF a && okL l
end
theorem Cc {n : Nat} (h : n < 10) : digs n = [UInt8.ofNat (48 + n)] := by rw [digs, if_pos h]
theorem digs_big {n : Nat} (h : 10 ≤ n) : digs n = digs (n / 10) ++ [UInt8.ofNat (48 + n % 10)] := by rw [digs, if_neg (by omega)]
theorem digs_len {n : Nat} (h : n ≤ 9999) : (digs n).length ≤ 4 := by
 by_cases h1 : n < 10
 ·rw [Cc h1]; simp
 rw [digs_big (by omega)]
 by_cases h2 : n / 10 < 10
 ·rw [Cc h2]; simp
 rw [digs_big (by omega)]
 by_cases h3 : n / 10 / 10 < 10
 ·rw [Cc h3]; simp
 rw [digs_big (by omega)]
 rw [Cc (by omega)]; simp
end Go.Proofs.YtfcgdbmoncnibaaGreatDoor
namespace Go.Proofs.YtfcgdbmoncnibaaGreatDoor
set_option linter.unusedVariables false
variable {mk : Prop} [MK mk]
theorem lookup_key {β : Type} {a : Int} {b : β} : ∀ {l : List (Int × β)}, l.lookup a = some b → a ∈ l.map (·.1)
 | [], h => by cases h
 | (k, v) :: l, h => by
  rw [List.lookup_cons] at h
  by_cases hk : a = k
  ·simp [hk]
  ·rw [show (a == k) = false by simpa using hk] at h
   have := lookup_key (l := l) h
   simp only [List.map_cons, List.mem_cons]
   exact .inr this
theorem op_cases {op : Int} {s : Sty} (h : BS op = some s) : op = 1 ∨ op = 2 ∨ op = 3 ∨ op = 4 ∨ op = 5 ∨ op = 6 ∨ op = 7 ∨ op = 8 ∨ op = 9 ∨ op = 10 ∨ op = 11 ∨ op = 12 ∨ op = 13 ∨ op = 14 ∨ op = 15 ∨ op = 16 ∨ op = 17 ∨ op = 18 ∨ op = 19 := by
 have := lookup_key h
 simpa [styL] using this
theorem node_parts {op v b : Int} {nm : List UInt8} {n : Nat} (h : nodeOk op nm v b n = true) : ∃ s, BS op = some s ∧ s.least ≤ n ∧ n ≤ s.most ∧ 0 ≤ v ∧ v ≤ (s.val : Int) ∧ 0 ≤ b ∧ b ≤ (s.bound : Int) ∧ (op = 3 → BW nm = true) ∧ (op ≠ 3 → nm = []) := by
 unfold nodeOk at h
 cases hs : BS op with
 | none => rw [hs] at h; cases h
 | some s =>
  rw [hs] at h
  simp only [Bool.and_eq_true, decide_eq_true_eq] at h
  obtain ⟨⟨h1, h2, h3, h4, h5, h6⟩, h7⟩ := h
  refine ⟨s, rfl, h1, h2, h3, h4, h5, h6, fun e => ?_, fun e => ?_⟩
  ·rw [if_pos e] at h7; exact h7
  ·rw [if_neg e] at h7; simpa using h7
theorem takeW_app {p : UInt8 → Bool} {u : List UInt8} (hu : ∀ c, u.head? = some c → p c = false) : ∀ s : List UInt8, s.all p = true → (s ++ u).takeWhile p = s
 | [], _ => by
  cases u with
  | nil => rfl
  | cons c u => simp [hu c rfl]
 | c :: s, h => by
  simp only [List.all_cons, Bool.and_eq_true] at h
  rw [List.cons_append, List.takeWhile_cons, if_pos h.1, takeW_app hu s h.2]
theorem fol_name {u : List UInt8} (h : folB u.head? = true) : ∀ c, u.head? = some c → C0 c = false := by
 intro c hc
 rw [hc] at h
 simp only [folB, isLet, C0, Bool.not_eq_true', Bool.or_eq_false_iff] at h ⊢
 exact ⟨⟨h.1.1.1, h.1.2⟩, h.2⟩
theorem fol_dig {u : List UInt8} (h : folB u.head? = true) : ∀ c, u.head? = some c → A3 c = false ∧ isLet c = false ∧ c.toNat ≠ 95 := by
 intro c hc
 rw [hc] at h
 simp only [folB, Bool.not_eq_true', Bool.or_eq_false_iff, decide_eq_false_iff_not] at h
 exact ⟨h.1.2, h.1.1, h.2⟩
theorem BB {nm : List UInt8} (hn : BW nm = true) : 1 ≤ nm.length ∧ nm.length ≤ 12 ∧ BU (nm.getD 0 0) = true ∧ nm.all C0 = true ∧ nm ∉ keysL := by
 simp only [BW, Bool.and_eq_true, decide_eq_true_eq, Bool.not_eq_true', decide_eq_false_iff_not] at hn
 exact ⟨hn.1.1.1.1, hn.1.1.1.2, hn.1.1.2, hn.1.2, hn.2⟩
theorem okL_mem : ∀ {l : List Fml}, okL l = true → ∀ a ∈ l, okF a = true
 | [], _, a, h => by cases h
 | c :: l, h, a, ha => by
  simp only [okL, Bool.and_eq_true] at h
  rcases List.mem_cons.1 ha with rfl | ha
  ·exact h.1
  ·exact okL_mem h.2 a ha
end Go.Proofs.YtfcgdbmoncnibaaGreatDoor
namespace Go.Proofs.YtfcgdbmoncnibaaGreatDoor
open Go.RowKit
variable {mk : Prop} [MK mk]
open Go.ChangeMaps (setBlock)
attribute [local semireducible] WC AX Bk BG Bc Cb Cv Bd
variable {P : Program} {all : Array Oper} {Z : Fr → DS → List PanicEntry → World → Prop} {K : Fr → DS → World → Prop} {rest : List Oper} {f : Fr} {ds : DS} {w : World}
 {d : Nat} {ty : TypeId} {pos : String} {af : Array Edge}
class VMapT (P : Program) (T : TypeId) (z : outParam Value) : Prop where
 out : ∃ kt et i, P.underlying T = some (.map kt et) ∧ P.underlying kt = some (.int .i64) ∧ P.info? et = some i ∧ i.zero = some z
theorem vmapT_of {T kt et : TypeId} {z : Value} (h1 : P.underlying T = some (.map kt et)) (h2 : P.underlying kt = some (.int .i64)) (h3 : (P.info? et).map (·.zero) = some (some z)) : VMapT P T z := by
 obtain ⟨i, hi, hz⟩ := Option.map_eq_some_iff.1 h3
 exact ⟨kt, et, i, h1, h2, hi, hz⟩
def encV (p : Int × Value) : Value × Value := (.int .i64 p.1, p.2)
theorem intK_inj {a b : Int} (h : Value.int .i64 a = Value.int .i64 b) : a = b := by simpa using h
def rdV (e : MapEntry) : Value × Value := (e.key, e.val)
def VMap (w : World) (r : Nat) (L : List (Int × Value)) : Prop :=
 ∃ es clock, w.heap[r]? = some (.map es clock) ∧ MapKept.Stamped es clock ∧ es.toList.map rdV = L.map encV
theorem VMap.lt {r : Nat} {L : List (Int × Value)} (h : VMap w r L) : r < w.heap.size := by
 obtain ⟨es, c, h1, _⟩ := h; exact (Array.getElem?_eq_some_iff.1 h1).1
theorem VMap.keep {X : List Nat} {w' : World} {r : Nat} {L : List (Int × Value)} (h : VMap w r L) (k : Keep X w w') (hr : r ∉ X) : VMap w' r L := by
 obtain ⟨es, c, h1, h2, h3⟩ := id h
 exact ⟨es, c, (k.block r h.lt hr).trans h1, h2, h3⟩
theorem keys_vint {es : List MapEntry} {L : List (Int × Value)} (h : es.map rdV = L.map encV) : ∀ x ∈ es, MapKept.IsKey (.int .i64) x.key := by
 intro x hx
 have : rdV x ∈ L.map encV := by rw [← h]; exact List.mem_map.2 ⟨x, hx, rfl⟩
 obtain ⟨p, _, e⟩ := List.mem_map.1 this
 have : x.key = Value.int .i64 p.1 := (congrArg Prod.fst e).symm
 rw [this]; trivial
theorem vlookup_none {L : List (Int × Value)} {x : Int} (h : ∀ p ∈ L, p.1 ≠ x) : L.lookup x = none := by
 induction L with
 | nil => rfl
 | cons q L ih =>
  obtain ⟨a, b⟩ := q
  have ha : x ≠ a := fun e => h (a, b) (by simp) e.symm
  rw [List.lookup_cons, beq_false_of_ne ha]
  exact ih fun p hp => h p (by simp [hp])
theorem vlookup_at {L : List (Int × Value)} (hn : (L.map (·.1)).Nodup) {p : Int × Value} (hp : p ∈ L) : L.lookup p.1 = some p.2 := by
 induction L with
 | nil => cases hp
 | cons q L ih =>
  simp only [List.map_cons, List.nodup_cons] at hn
  obtain ⟨a, b⟩ := q
  rcases List.mem_cons.1 hp with rfl | hp
  ·simp [List.lookup]
  ·have : p.1 ≠ a := fun e => hn.1 (List.mem_map.2 ⟨p, hp, e⟩)
   rw [List.lookup_cons, beq_false_of_ne this]
   exact ih hn.2 hp
theorem nodup_vint {r : Nat} {L : List (Int × Value)} (h : VMap w r L) : (L.map (·.1)).Nodup := by
 obtain ⟨es, c, _, ⟨_, _, h2⟩, h3⟩ := h
 have e : es.toList.map (·.key) = L.map (fun p => Value.int .i64 p.1) := by
  have := congrArg (List.map Prod.fst) h3
  simpa [rdV, encV, List.map_map, Function.comp_def] using this
 rw [e] at h2
 have h4 : ((L.map (·.1)).map (fun x => Value.int .i64 x)).Nodup := by rw [List.map_map]; exact h2
 exact List.Pairwise.of_map _ (fun a b hab e => hab (by rw [e])) h4
theorem find_vint {kt : TypeId} {L : List (Int × Value)} (hk : P.underlying kt = some (.int .i64)) {es : Array MapEntry} (hm : es.toList.map rdV = L.map encV) (hn : (L.map (·.1)).Nodup) (x : Int) (w : World) :
  (L.lookup x = none ∧ (Instr.findKey kt (.int .i64 x) es.toList).run P w = .ok none w ∧ ∀ e ∈ es.toList, e.key ≠ Value.int .i64 x) ∨
  ∃ i v, L.lookup x = some v ∧ (Instr.findKey kt (.int .i64 x) es.toList).run P w = .ok (some (i, v)) w := by
 have hget : ∀ (i : Nat) (e : MapEntry), es.toList[i]? = some e → ∃ p, L[i]? = some p ∧ e.key = Value.int .i64 p.1 ∧ e.val = p.2 := by
  intro i e he
  have := congrArg (fun l => l[i]?) hm
  simp only [List.getElem?_map, he, Option.map_some] at this
  obtain ⟨p, hp, e2⟩ := Option.map_eq_some_iff.1 this.symm
  exact ⟨p, hp, (congrArg Prod.fst e2).symm, (congrArg Prod.snd e2).symm⟩
 rcases MapKept.findNow_spec (d := .int .i64) (k := .int .i64 x) rfl es.toList 0 (keys_vint hm) with ⟨h1, h2⟩ | ⟨j, e, h1, h2, h3⟩
 ·refine .inl ⟨vlookup_none fun p hp hpx => ?_, MapKept.run_findKey hk h1, h2⟩
  obtain ⟨i, hi⟩ := List.getElem?_of_mem hp
  have := congrArg (fun l => l[i]?) hm
  simp only [List.getElem?_map, hi, Option.map_some] at this
  obtain ⟨e, he, e2⟩ := Option.map_eq_some_iff.1 this
  refine h2 e (List.mem_of_getElem? he) ?_
  rw [show e.key = Value.int .i64 p.1 from congrArg Prod.fst e2, hpx]
 ·obtain ⟨p, hp, e1, e2⟩ := hget j e h2
  rw [h3] at e1
  have hx := intK_inj e1
  refine .inr ⟨j, p.2, ?_, ?_⟩
  ·rw [hx]; exact vlookup_at hn (List.mem_of_getElem? hp)
  ·have := MapKept.run_findKey (P := P) (w := w) hk h1
   rw [this, e2, Nat.zero_add]
theorem W_makeMapV {T : TypeId} (h : ∀ w', Ext w w' → w'.heap.size = w.heap.size + 1 → VMap w' w.heap.size [] → AX P all Z K rest (upd f d (.map (some w.heap.size))) ds w') :
  AX P all Z K (⟨some d, .makeMap T none, ty, pos, af, none⟩ :: rest) f ds w := by
 refine Ay (v := .map (some w.heap.size)) (w' := w.alloc (.map #[] 0)) rfl ?_ (h _ ⟨rfl, rfl, rfl, by simp, fun k hk _ => heap_alloc_old w _ hk, fun _ => mark_new (by simp) (fun k hk => heap_alloc_old w _ hk) (fun c t fr e => by rw [heap_alloc_new] at e; cases e)⟩ (by simp) ⟨#[], 0, heap_alloc_new w _, MapKept.stamped_empty 0, rfl⟩)
 have hr : (Instr.makeMap T none).run P w = .ok (.map (some w.heap.size)) (w.alloc (.map #[] 0)) := rfl
 simp [execOp, hr]
theorem W_lookup2V {T : TypeId} {m k : Operand} {r : Nat} {x : Int} {z : Value} {L : List (Int × Value)} [hT : VMapT P T z] (hm : ev f m = .map (some r)) (hk : ev f k = .int .i64 x) (hL : VMap w r L)
  (h : AX P all Z K rest (upd f d (.tuple #[(L.lookup x).getD z, .bool (L.lookup x).isSome])) ds w) : AX P all Z K (⟨some d, .lookup T m k true, ty, pos, af, none⟩ :: rest) f ds w := by
 obtain ⟨kt, et, i, h1, h2, h3, h4⟩ := hT.out
 have hn := nodup_vint hL
 obtain ⟨es, clock, hb, hs, hmm⟩ := hL
 refine Ay rfl ?_ h
 have hck := MapKept.run_checkKey (P := P) (w := w) (k := .int .i64 x) h2 rfl es.isEmpty 9999
 have hz : (zeroValue et).run P w = .ok z w := by simp [zeroValue, typeInfo, h3, h4]
 rcases find_vint h2 hmm hn x w with ⟨e1, e2, _⟩ | ⟨j, v, e1, e2⟩
 ·simp [execOp, hm, hk, Instr.lookup, run_underlying h1, MapKept.run_getObj_map hb, hck, e2, hz, e1]
 ·simp [execOp, hm, hk, Instr.lookup, run_underlying h1, MapKept.run_getObj_map hb, hck, e2, e1]
theorem setBlkV_keep {w : World} {r : Nat} {o' : Obj} (ho : ∀ c t fr, o' ≠ .cells c t fr) : Keep [r] w { w with heap := w.heap.setIfInBounds r o' } :=
 ⟨rfl, rfl, rfl, by simp, fun k _ hk => by simp [Ne.symm (show k ≠ r by simpa using hk)], fun _ => mark_obj ho⟩
theorem BO {T : TypeId} {m k v : Operand} {r : Nat} {x : Int} {y z : Value} {L : List (Int × Value)} [hT : VMapT P T z] (hm : ev f m = .map (some r)) (hk : ev f k = .int .i64 x) (hv : ev f v = y) (hL : VMap w r L) (hx : L.lookup x = none)
  (h : ∀ w', Keep [r] w w' → w'.heap.size = w.heap.size → VMap w' r (L ++ [(x, y)]) → AX P all Z K rest f ds w') : AX P all Z K (⟨none, .insert T m k v, ty, pos, af, none⟩ :: rest) f ds w := by
 obtain ⟨kt, et, i, h1, h2, h3, h4⟩ := hT.out
 have hn := nodup_vint hL
 obtain ⟨es, clock, hb, hs, hmm⟩ := hL
 have hck := MapKept.run_checkKey (P := P) (w := w) (k := .int .i64 x) h2 rfl false 9999
 rcases find_vint h2 hmm hn x w with ⟨e1, e2, e3⟩ | ⟨j, v0, e1, e2⟩
 ·refine W_skp (w' := { w with heap := w.heap.setIfInBounds r (.map (es.push { key := .int .i64 x, val := y, born := clock }) (clock + 1)) }) rfl ?_ (h _ (setBlkV_keep fun _ _ _ h => by cases h) (by simp) ⟨_, _, (MapKept.heap_set hb).1, MapKept.stamped_push hs e3, ?_⟩)
  ·simp [execOp, hm, hk, hv, Instr.mapUpdate, run_underlying h1, MapKept.run_getObj_map hb, hck, e2, MapKept.run_setObj_map _ hb]
  ·rw [Array.toList_push, List.map_append, hmm]
   simp [rdV, encV]
 ·rw [e1] at hx; cases hx
end Go.Proofs.YtfcgdbmoncnibaaGreatDoor
namespace Go.Proofs.YtfcgdbmoncnibaaGreatDoor
open Go.RowKit
variable {mk : Prop} [MK mk]
attribute [local semireducible] WC AX Bk BG Bc Cb Cv Bd
variable {P : Program} {ops : Array Oper} {rr : Option Nat}
def backB (l : List Oper) : Bool := (List.range l.length).all fun i => match l[i]? with
 | some o => o.after.toList.all fun e => Nat.blt e.on i
 | none => true
theorem backB_at {l : List Oper} (h : backB l = true) {i : Nat} {o : Oper} (ho : l[i]? = some o) : ∀ e ∈ o.after, e.on < i := by
 intro e he
 have hi : i < l.length := (List.getElem?_eq_some_iff.1 ho).1
 have := List.all_eq_true.1 h i (List.mem_range.2 hi)
 rw [ho] at this
 have := List.all_eq_true.1 this e (by simpa using he)
 rw [Nat.blt_eq] at this
 exact this
theorem filter_lt {p q : Nat → Bool} {j : Nat} (hq : ∀ x, q x = true → p x = true) (hj : p j = true) (hj' : q j = false) : ∀ {l : List Nat}, j ∈ l → (l.filter q).length < (l.filter p).length
 | [], h => by cases h
 | x :: l, h => by
  have hle : ∀ m : List Nat, (m.filter q).length ≤ (m.filter p).length := by
   intro m
   induction m with
   | nil => exact Nat.le_refl _
   | cons y m ih =>
    rw [List.filter_cons, List.filter_cons]
    cases hy : q y with
    | true => rw [hq y hy]; simp; exact ih
    | false => cases p y <;> simp <;> omega
  rw [List.filter_cons, List.filter_cons]
  rcases List.mem_cons.1 h with rfl | h
  ·rw [hj, hj']
   have := hle l
   simp; omega
  ·have ih := filter_lt hq hj hj' h
   cases hx : q x with
   | true => rw [hq x hx]; simp; exact ih
   | false => cases p x <;> simp <;> omega
theorem wpAny_inv {n : Nat} {Q : CG} {Inv : (Nat → Bool) → Fr → DS → World → Prop} (hok : ops.toList.all (opOk n rr.isSome) = true) (hback : ∀ (i : Nat) (o : Oper), ops[i]? = some o → ∀ e ∈ o.after, e.on < i)
  (step : ∀ (L : Nat → Bool) (f : Fr) (ds : DS) (w : World) (i : Nat) (o : Oper), Inv L f ds w → ops[i]? = some o → L i = false → (∀ e ∈ o.after, Region.binds .any e = true → L e.on = true) →
   AX P ops (fun f ds ch w => Q (.panic ch) f ds w) (fun f' ds' w' => Inv (fun j => j == i || L j) f' ds' w') [o] f ds w)
  (fin : ∀ (L : Nat → Bool) (f : Fr) (ds : DS) (w : World), Inv L f ds w → (∀ i, i < ops.size → L i = true) → Q .normal f ds w) :
  ∀ (fuel : Nat) (listed : Array Bool) (a : Act) (w : World), listed.size = ops.size → ((List.range ops.size).filter fun i => !listed.getD i true).length ≤ fuel → a.tmps.size = n → Inv (fun i => listed.getD i true) (Bs a) a.defers w →
   wpAnyIn (rnd rr) 0 P .any ops (liftQ n Q) fuel listed a w := by
 have all_of : ∀ (listed : Array Bool), listed.size = ops.size → Region.ready .any ops listed = [] → ∀ i, i < ops.size → listed.getD i true = true := by
  intro listed hsz hr i
  induction i using Nat.strongRecOn with
  | ind i ih =>
   intro hi
   cases hl : listed.getD i true with
   | true => rfl
   | false =>
    exfalso
    have ho : ops[i]? = some ops[i] := Array.getElem?_eq_getElem hi
    have : i ∈ Region.ready .any ops listed := by
     refine mem_ready.2 ⟨hl, _, ho, fun e he hb => ?_⟩
     have hlt := hback i _ ho e he
     have := ih e.on hlt (by omega)
     rw [Array.getD_eq_getD_getElem?, Array.getElem?_eq_getElem (by omega)] at this ⊢
     exact this
    rw [hr] at this
    cases this
 have isFin : ∀ (listed : Array Bool) (a : Act) (w : World), listed.size = ops.size → a.tmps.size = n → Inv (fun i => listed.getD i true) (Bs a) a.defers w → Region.ready .any ops listed = [] → liftQ n Q .normal a w :=
  fun listed a w hsz hn hI hr => ⟨hn, fin _ _ _ _ hI (fun i hi => all_of listed hsz hr i hi)⟩
 intro fuel
 induction fuel with
 | zero =>
  intro listed a w hsz hc hn hI
  have hr : Region.ready .any ops listed = [] := by
   cases hrd : Region.ready .any ops listed with
   | nil => rfl
   | cons j t =>
    exfalso
    obtain ⟨hj, oj, hoj, _⟩ := mem_ready.1 (show j ∈ Region.ready .any ops listed by rw [hrd]; simp)
    have hjlt : j < ops.size := (Array.getElem?_eq_some_iff.1 hoj).1
    have hm : j ∈ (List.range ops.size).filter fun i => !listed.getD i true := List.mem_filter.2 ⟨List.mem_range.2 hjlt, by rw [hj]; rfl⟩
    have := List.length_pos_of_mem hm
    omega
  exact ⟨hr, isFin listed a w hsz hn hI hr⟩
 | succ fuel ih =>
  intro listed a w hsz hc hn hI
  refine ⟨isFin listed a w hsz hn hI, fun i hi => ?_⟩
  obtain ⟨hun, oi, hoi, hall⟩ := mem_ready.1 hi
  have hilt : i < ops.size := (Array.getElem?_eq_some_iff.1 hoi).1
  have hdn : opOk n rr.isSome oi = true := List.all_eq_true.1 hok oi (by simpa using Array.mem_of_getElem? hoi)
  have hsL : ∀ e ∈ oi.after, Region.binds .any e = true → listed.getD e.on true = true := fun e he hb => by
   have h1 := hall e he hb
   have hlt := hback i _ hoi e he
   rw [Array.getD_eq_getD_getElem?, Array.getElem?_eq_getElem (by omega)] at h1 ⊢
   exact h1
  have hst := step _ _ _ _ i oi hI hoi hun hsL
  refine wpOp_of_WOps hoi hn hdn ?_ hst
  intro a' w' hn' hI'
  have hsame : (fun j => (listed.setIfInBounds i true).getD j true) = fun j => j == i || listed.getD j true := by
   funext j
   by_cases hji : j = i
   ·subst hji
    rw [Array.getD_eq_getD_getElem?, Array.getElem?_setIfInBounds_self, if_pos (by omega)]
    simp
   ·rw [Array.getD_eq_getD_getElem?, Array.getElem?_setIfInBounds_ne (Ne.symm hji), ← Array.getD_eq_getD_getElem?]
    simp [hji]
  refine ih (listed.setIfInBounds i true) a' w' (by simp [hsz]) ?_ hn' (by rw [hsame]; exact hI')
  have hlt := filter_lt (p := fun j => !listed.getD j true) (q := fun j => !(listed.setIfInBounds i true).getD j true) (j := i) (fun x hx => by
   have h2 : (listed.setIfInBounds i true).getD x true = (x == i || listed.getD x true) := congrFun hsame x
   rw [h2] at hx
   simp only [Bool.not_eq_true', Bool.or_eq_false_iff] at hx ⊢
   exact hx.2) (by rw [hun]; rfl) (by have h2 : (listed.setIfInBounds i true).getD i true = (i == i || listed.getD i true) := congrFun hsame i; rw [h2]; simp) (List.mem_range.2 hilt)
  omega
def quietQ (Q : CG) : CG := fun e f ds w => match e with
 | .normal => Q .normal f ds w
 | _ => False
theorem C_inv {n : Cf} {Q : CG} {id : Nat} {l : List Oper} {f : Fr} {ds : DS} {w : World} (Inv : (Nat → Bool) → Fr → DS → World → Prop) (hm : P.follows .mixedOrders = true) (hc : (l.all (opOk n.n n.r.isSome) && backB l) = true)
  (hI : ∀ w1, Ext w w1 → w1.heap = w.heap → Inv (fun i => !Nat.blt i l.length) f ds w1)
  (step : ∀ (L : Nat → Bool) (f : Fr) (ds : DS) (w : World) (i : Nat) (o : Oper), Inv L f ds w → l[i]? = some o → L i = false → (∀ e ∈ o.after.toList, Region.binds .any e = true → L e.on = true) →
   AX P l.toArray (fun _ _ _ _ => False) (fun f' ds' w' => Inv (fun j => j == i || L j) f' ds' w') [o] f ds w)
  (fin : ∀ (L : Nat → Bool) (f : Fr) (ds : DS) (w : World), Inv L f ds w → (∀ i, i < l.length → L i = true) → Q .normal f ds w) : WC P n (.region id l.toArray true) Q f ds w := by
 simp only [Bool.and_eq_true] at hc
 rintro a hn rfl rfl
 refine wpIn_mono (Q := liftQ n.n (quietQ Q)) (wpIn_region_any hm ?_) ?_
 ·refine wpAny_inv (P := P) (Q := quietQ Q) (Inv := Inv) (ops := l.toArray) (rr := n.r) hc.1 (fun i o ho e he => backB_at hc.2 (by simpa using ho) e he) (fun L f ds w i o h1 h2 h3 h4 => step L f ds w i o h1 (by simpa using h2) h3 (fun e he => h4 e (by simpa using he))) (fun L f ds w h1 h2 => fin L f ds w h1 (fun i hi => h2 i (by simpa using hi))) _ _ a _ (by simp) ?_ hn ?_
  ·exact Nat.le_trans (List.length_filter_le _ _) (by simp)
  ·have := hI { w with drawn := w.drawn + 1 } ⟨rfl, rfl, rfl, Nat.le_refl _, fun _ _ _ => rfl, fun _ => mark_heap rfl⟩ rfl
   have e : (fun i => (Array.replicate l.toArray.size false).getD i true) = fun i => !Nat.blt i l.length := by
    funext i
    rw [Array.getD_eq_getD_getElem?, Array.getElem?_replicate]
    by_cases hi : i < l.length
    ·simp [hi]
    ·have hb : Nat.blt i l.length = false := by rw [Bool.eq_false_iff, ne_eq, Nat.blt_eq]; exact hi
     simp [hi, hb]
   rw [e]
   exact this
 ·intro e a w hq
  obtain ⟨h1, h2⟩ := hq
  cases e with
  | normal => exact ⟨h1, h2⟩
  | _ => exact h2.elim
end Go.Proofs.YtfcgdbmoncnibaaGreatDoor
namespace Go.Proofs.YtfcgdbmoncnibaaGreatDoor
open Go.RowKit
set_option linter.unusedVariables false
variable {mk : Prop} [MK mk]
def By (s : Sty) : List Value := [AM s.sign, .int .i64 (s.level : Int), .int .i64 (s.first : Int), .int .i64 (s.next : Int), .int .i64 (s.least : Int), .int .i64 (s.most : Int), .int .i64 (s.val : Int), .int .i64 (s.bound : Int), .int .i64 (s.usual : Int)]
def BR (s : Sty) : Value := .agg (By s).toArray
theorem styC_one (s : Sty) : oneC (By s) := by
 intro u hu
 simp only [By, List.mem_cons, List.not_mem_nil, or_false] at hu
 rcases hu with rfl | rfl | rfl | rfl | rfl | rfl | rfl | rfl | rfl <;> rfl
def pfx : Sty := ⟨[], 4, 4, 0, 1, 1, 0, 0, 0⟩
def ifx : Sty := ⟨[], 3, 4, 3, 2, 2, 0, 0, 0⟩
def styK (k : Nat) : Sty := ((styL.map (·.2))[k - 1]?).getD pfx
def An (k : Nat) : Value := BR (styK k)
def fn1 : Value := .func (.func 119) #[] #[]
def fn2 : Value := .func (.func 120) #[] #[]
def fn3 : Value := .func (.func 121) #[] #[]
def sty0 : List Value := [AM [], .int .i64 0, .int .i64 0, .int .i64 0, .int .i64 0, .int .i64 0, .int .i64 0, .int .i64 0, .int .i64 0]
instance : VMapT Tryz.prog 122 (.agg sty0.toArray) := vmapT_of Tryz.underlying122 Tryz.underlying3 (by kernel_rfl)
theorem C1 (w : World) (s : Sty) (g : List UInt8) : Fn Tryz.prog 119 [BR s, AM g] w fun v w' => v = BR { s with sign := g } ∧ Ext w w' := by
 refine Aa Tryz.func119 rfl Tryz.ntmps119 (Nat.le_of_ble_eq_true rfl) (by kernel_rfl) ?_
 repeat' first | refine nx rfl ?_ | fail
 (refine AA ?_; refine BL (L := By s) rfl (fun w1 n1 => ?_))
 refine Av (fun w2 n2 => ?_)
 have b1 := n1.blk.keep n2.keep (by simp)
 have b2 : Blk w2 w1.heap.size 129 sty0 := n2.blk
 have z1 := n1.size
 repeat' first | refine nx rfl ?_ | fail
 refine AA (AT rfl (AD rfl ?_))
 refine Al rfl rfl rfl b1 (by simp [By]) (fun w3 p3 => ?_)
 have b3 : Blk w3 w.heap.size 129 (By { s with sign := g }) := p3.blk
 have b2' := b2.keep p3.keep (by simp; omega)
 repeat' first | refine nx rfl ?_ | fail
 (refine AA ?_ <;> refine AW rfl (by assumption) (by rfl) ?_)
 refine Ad (cs := By { s with sign := g }) rfl rfl rfl (styC_one _) b2' (by simp [sty0, By]) (fun w4 p4 => ?_)
 have b4 : Blk w4 w1.heap.size 129 (By { s with sign := g }) := p4.blk
 repeat' first | refine nx rfl ?_ | fail
 exact A2 rfl rfl rfl b4.cells ⟨rfl, ((n1.keep.trans n2.keep).keep p3.keep (by simp)).keep p4.keep (by simp; omega)⟩
theorem bounded_ok (w : World) (s : Sty) (g : List UInt8) : Fn Tryz.prog 121 [BR s, AM g] w fun v w' => v = BR { s with sign := g, bound := 9999 } ∧ Ext w w' := by
 refine Aa Tryz.func121 rfl Tryz.ntmps121 (Nat.le_of_ble_eq_true rfl) (by kernel_rfl) ?_
 repeat' first | refine nx rfl ?_ | fail
 (refine AA ?_; refine BL (L := By s) rfl (fun w1 n1 => ?_))
 refine Av (fun w2 n2 => ?_)
 have b1 := n1.blk.keep n2.keep (by simp)
 have b2 : Blk w2 w1.heap.size 129 sty0 := n2.blk
 have z1 := n1.size
 repeat' first | refine nx rfl ?_ | fail
 refine AA (AT rfl (AD rfl ?_))
 refine Al rfl rfl rfl b1 (by simp [By]) (fun w3 p3 => ?_)
 have b3 : Blk w3 w.heap.size 129 (By { s with sign := g }) := p3.blk
 (refine AD rfl ?_)
 refine Al rfl rfl rfl b3 (by simp [By]) (fun w4 p4 => ?_)
 have b4 : Blk w4 w.heap.size 129 (By { s with sign := g, bound := 9999 }) := p4.blk
 have b2' := (b2.keep p3.keep (by simp; omega)).keep p4.keep (by simp; omega)
 repeat' first | refine nx rfl ?_ | fail
 (refine AA ?_ <;> refine AW rfl (by assumption) (by rfl) ?_)
 refine Ad (cs := By { s with sign := g, bound := 9999 }) rfl rfl rfl (styC_one _) b2' (by simp [sty0, By]) (fun w5 p5 => ?_)
 have b5 : Blk w5 w1.heap.size 129 (By { s with sign := g, bound := 9999 }) := p5.blk
 repeat' first | refine nx rfl ?_ | fail
 exact A2 rfl rfl rfl b5.cells ⟨rfl, (((n1.keep.trans n2.keep).keep p3.keep (by simp)).keep p4.keep (by simp)).keep p5.keep (by simp; omega)⟩
theorem valued_ok (w : World) (s : Sty) (g : List UInt8) (m u : Nat) : Fn Tryz.prog 120 [BR s, AM g, .int .i64 (m : Int), .int .i64 (u : Int)] w fun v w' => v = BR { s with sign := g, val := m, usual := u } ∧ Ext w w' := by
 refine Aa Tryz.func120 rfl Tryz.ntmps120 (Nat.le_of_ble_eq_true rfl) (by kernel_rfl) ?_
 repeat' first | refine nx rfl ?_ | fail
 (refine AA ?_; refine BL (L := By s) rfl (fun w1 n1 => ?_))
 refine Av (fun w2 n2 => ?_)
 have b1 := n1.blk.keep n2.keep (by simp)
 have b2 : Blk w2 w1.heap.size 129 sty0 := n2.blk
 have z1 := n1.size
 repeat' first | refine nx rfl ?_ | fail
 refine AA (AT rfl (AI rfl (AI rfl (AD rfl ?_))))
 refine Al rfl rfl rfl b1 (by simp [By]) (fun w3 p3 => ?_)
 have b3 : Blk w3 w.heap.size 129 (By { s with sign := g }) := p3.blk
 (refine AD rfl ?_)
 refine Al rfl rfl rfl b3 (by simp [By]) (fun w4 p4 => ?_)
 have b4 : Blk w4 w.heap.size 129 (By { s with sign := g, val := m }) := p4.blk
 (refine AD rfl ?_)
 refine Al rfl rfl rfl b4 (by simp [By]) (fun w5 p5 => ?_)
 have b5 : Blk w5 w.heap.size 129 (By { s with sign := g, val := m, usual := u }) := p5.blk
 have b2' := ((b2.keep p3.keep (by simp; omega)).keep p4.keep (by simp; omega)).keep p5.keep (by simp; omega)
 repeat' first | refine nx rfl ?_ | fail
 (refine AA ?_ <;> refine AW rfl (by assumption) (by rfl) ?_)
 refine Ad (cs := By { s with sign := g, val := m, usual := u }) rfl rfl rfl (styC_one _) b2' (by simp [sty0, By]) (fun w6 p6 => ?_)
 have b6 : Blk w6 w1.heap.size 129 (By { s with sign := g, val := m, usual := u }) := p6.blk
 repeat' first | refine nx rfl ?_ | fail
 exact A2 rfl rfl rfl b6.cells ⟨rfl, ((((n1.keep.trans n2.keep).keep p3.keep (by simp)).keep p4.keep (by simp)).keep p5.keep (by simp)).keep p6.keep (by simp; omega)⟩
def valT : List (Nat × Nat × Value) := [(1, 9, An 1), (3, 10, An 2), (5, 11, An 3), (7, 12, fn1), (8, 13, BR pfx), (9, 14, An 4), (11, 15, An 5), (13, 16, An 6), (15, 17, An 7), (17, 18, fn1), (18, 19, BR pfx), (19, 20, An 8), (21, 21, fn1), (22, 22, BR ifx), (23, 23, An 9), (25, 24, fn1), (26, 25, BR ifx), (27, 26, An 10), (29, 27, fn1), (30, 28, BR pfx), (31, 29, An 11), (33, 30, fn1), (34, 31, BR pfx), (35, 32, An 12), (37, 33, fn3), (38, 34, BR pfx), (39, 35, An 13), (41, 36, fn3), (42, 37, BR pfx), (43, 38, An 14), (45, 39, fn2), (46, 40, BR pfx), (47, 41, An 15), (49, 42, fn2), (50, 43, BR ifx), (51, 44, An 16), (53, 45, fn2), (54, 46, BR ifx), (55, 47, An 17), (57, 48, fn1), (58, 49, BR pfx), (59, 50, An 18), (61, 51, fn1), (62, 52, BR pfx), (63, 53, An 19)]
def insT : List (Nat × Int × Value) := [(2, 1, An 1), (4, 2, An 2), (6, 3, An 3), (10, 4, An 4), (12, 5, An 5), (14, 6, An 6), (16, 7, An 7), (20, 8, An 8), (24, 9, An 9), (28, 10, An 10), (32, 11, An 11), (36, 12, An 12), (40, 13, An 13), (44, 14, An 14), (48, 15, An 15), (52, 16, An 16), (56, 17, An 17), (60, 18, An 18), (64, 19, An 19)]
def vOps : List Nat := valT.map (·.1)
def vSlots : List Nat := valT.map (·.2.1)
def iOps : List Nat := insT.map (·.1)
theorem v_ops : ∀ p ∈ valT, p.1 < 67 ∧ p.1 ≠ 0 ∧ p.1 ≠ 65 ∧ p.1 ≠ 66 ∧ p.1 ∉ iOps := by
 have h : (vOps.all fun i => Nat.blt i 67 && i != 0 && i != 65 && i != 66 && !iOps.contains i) = true := by kernel_rfl
 intro p hp
 have := List.all_eq_true.1 h p.1 (List.mem_map.2 ⟨p, hp, rfl⟩)
 simpa [Nat.blt_eq, and_assoc] using this
theorem v_slots : ∀ p ∈ valT, 8 < p.2.1 ∧ p.2.1 < 54 := by
 have h : (vSlots.all fun i => Nat.blt 8 i && Nat.blt i 54) = true := by kernel_rfl
 intro p hp
 have := List.all_eq_true.1 h p.2.1 (List.mem_map.2 ⟨p, hp, rfl⟩)
 simpa [Nat.blt_eq] using this
theorem i_ops : ∀ p ∈ insT, p.1 < 67 ∧ p.1 ≠ 0 ∧ p.1 ≠ 65 ∧ p.1 ≠ 66 ∧ p.1 ∉ vOps := by
 have h : (iOps.all fun i => Nat.blt i 67 && i != 0 && i != 65 && i != 66 && !vOps.contains i) = true := by kernel_rfl
 intro p hp
 have := List.all_eq_true.1 h p.1 (List.mem_map.2 ⟨p, hp, rfl⟩)
 simpa [Nat.blt_eq, and_assoc] using this
theorem nodup_of {l : List Nat} (h : (l.zipIdx.all fun x => l.zipIdx.all fun y => Nat.beq x.2 y.2 || !Nat.beq x.1 y.1) = true) {i j : Nat} {a : Nat} (hi : l[i]? = some a) (hj : l[j]? = some a) : i = j := by
 have h1 := List.all_eq_true.1 h (a, i) (List.mem_zipIdx_iff_getElem?.2 (by simpa using hi))
 have h2 := List.all_eq_true.1 h1 (a, j) (List.mem_zipIdx_iff_getElem?.2 (by simpa using hj))
 simpa using h2
theorem uniq_of {α : Type} {l : List α} {g : α → Nat} (h : (((l.map g).zipIdx).all fun x => (l.map g).zipIdx.all fun y => Nat.beq x.2 y.2 || !Nat.beq x.1 y.1) = true) {p q : α} (hp : p ∈ l) (hq : q ∈ l) (e : g p = g q) : p = q := by
 obtain ⟨i, hi⟩ := List.getElem?_of_mem hp
 obtain ⟨j, hj⟩ := List.getElem?_of_mem hq
 have := nodup_of h (i := i) (j := j) (a := g p) (by rw [List.getElem?_map, hi]; rfl) (by rw [List.getElem?_map, hj, e]; rfl)
 subst this
 rw [hi] at hj
 exact Option.some.inj hj
theorem v_uop {p q : Nat × Nat × Value} (hp : p ∈ valT) (hq : q ∈ valT) (e : p.1 = q.1) : p = q := uniq_of (g := (·.1)) (by kernel_rfl) hp hq e
theorem v_uslot {p q : Nat × Nat × Value} (hp : p ∈ valT) (hq : q ∈ valT) (e : p.2.1 = q.2.1) : p = q := uniq_of (g := (·.2.1)) (by kernel_rfl) hp hq e
theorem i_uop {p q : Nat × Int × Value} (hp : p ∈ insT) (hq : q ∈ insT) (e : p.1 = q.1) : p = q := uniq_of (g := (·.1)) (by kernel_rfl) hp hq e
theorem i_ukey {p q : Nat × Int × Value} (hp : p ∈ insT) (hq : q ∈ insT) (e : p.2.1 = q.2.1) : p = q := uniq_of (g := fun x => x.2.1.toNat) (by kernel_rfl) hp hq (congrArg Int.toNat e)
structure StyInv (b1 b2 : Nat) (wd : World) (ds0 : DS) (L : Nat → Bool) (f : Fr) (ds : DS) (w : World) : Prop where
 ds : ds = ds0
 ext : Ext wd w
 p1 : f 1 = .pointer (some ⟨b1, 0, none⟩)
 p2 : f 2 = .pointer (some ⟨b2, 0, none⟩)
 p3 : f 3 = fn1
 p4 : f 4 = fn2
 p5 : f 5 = fn3
 vals : ∀ p ∈ valT, L p.1 = true → f p.2.1 = p.2.2
 ord : ∀ p ∈ insT, L p.1 = true → L 0 = true
 map : L 0 = true → ∃ r M, f 8 = .map (some r) ∧ wd.heap.size ≤ r ∧ VMap w r M ∧ ∀ k v, (k, v) ∈ M ↔ ∃ p ∈ insT, L p.1 = true ∧ k = p.2.1 ∧ v = p.2.2
 ord65 : L 65 = true → L 0 = true
 l65 : L 65 = true → f 54 = f 8
 l66 : L 66 = true → f 0 = f 8 ∧ L 65 = true
theorem upd_at (f : Fr) (d : Nat) (v : Value) : upd f d v d = v := by simp [upd]
theorem BK {f : Fr} {d j : Nat} {v : Value} (h : j ≠ d) : upd f d v j = f j := by
 have : Nat.beq j d = false := by rw [Bool.eq_false_iff, ne_eq, Nat.beq_eq]; exact h
 simp [upd, this]
section
variable {b1 b2 : Nat} {wd w w' : World} {ds0 ds : DS} {L : Nat → Bool} {f : Fr}
theorem CN {i j : Nat} (h : j ≠ i) : (j == i || L j) = L j := by simp [h]
theorem or_at (i : Nat) : (i == i || L i) = true := by simp
theorem Ag {p : Nat × Nat × Value} (h : StyInv b1 b2 wd ds0 L f ds w) (hp : p ∈ valT) (k : Ext w w') : StyInv b1 b2 wd ds0 (fun j => j == p.1 || L j) (upd f p.2.1 p.2.2) ds w' := by
 obtain ⟨o1, o2, o3, o4, o5⟩ := v_ops p hp
 obtain ⟨s1, s2⟩ := v_slots p hp
 have hins : ∀ q ∈ insT, q.1 ≠ p.1 := fun q hq e => o5 (List.mem_map.2 ⟨q, hq, e⟩)
 refine ⟨h.ds, h.ext.trans k, by rw [BK (by omega)]; exact h.p1, by rw [BK (by omega)]; exact h.p2, by rw [BK (by omega)]; exact h.p3, by rw [BK (by omega)]; exact h.p4, by rw [BK (by omega)]; exact h.p5, ?_, ?_, ?_, ?_, ?_, ?_⟩
 ·intro q hq hL
  by_cases e : q.1 = p.1
  ·rw [v_uop hq hp e, upd_at]
  ·rw [BK (fun e2 => e (by rw [v_uslot hq hp e2]))]
   exact h.vals q hq (by rw [CN e] at hL; exact hL)
 ·intro q hq hL
  rw [CN (hins q hq)] at hL
  show (0 == p.1 || L 0) = true
  rw [CN (Ne.symm o2)]; exact h.ord q hq hL
 ·intro hL
  rw [CN (Ne.symm o2)] at hL
  obtain ⟨r, M, e1, e2, e3, e4⟩ := h.map hL
  refine ⟨r, M, by rw [BK (by omega)]; exact e1, e2, e3.keep k (by simp), fun a v => ?_⟩
  rw [e4]
  constructor
  ·rintro ⟨q, hq, h1, h2⟩; exact ⟨q, hq, by rw [CN (hins q hq)]; exact h1, h2⟩
  ·rintro ⟨q, hq, h1, h2⟩; rw [CN (hins q hq)] at h1; exact ⟨q, hq, h1, h2⟩
 ·intro hL
  rw [CN (Ne.symm o3)] at hL
  show (0 == p.1 || L 0) = true
  rw [CN (Ne.symm o2)]; exact h.ord65 hL
 ·intro hL
  rw [CN (Ne.symm o3)] at hL
  rw [BK (by omega), BK (by omega)]; exact h.l65 hL
 ·intro hL
  rw [CN (Ne.symm o4)] at hL
  rw [BK (by omega), BK (by omega), CN (Ne.symm o3)]; exact h.l66 hL
theorem styInv_make (h : StyInv b1 b2 wd ds0 L f ds w) (k : Ext w w') (m : VMap w' w.heap.size []) (h0 : L 0 = false) : StyInv b1 b2 wd ds0 (fun j => j == 0 || L j) (upd f 8 (.map (some w.heap.size))) ds w' := by
 have hno : ∀ q ∈ insT, L q.1 = false := fun q hq => by
  cases hL : L q.1 with
  | false => rfl
  | true => rw [h.ord q hq hL] at h0; cases h0
 refine ⟨h.ds, h.ext.trans k, by rw [BK (by omega)]; exact h.p1, by rw [BK (by omega)]; exact h.p2, by rw [BK (by omega)]; exact h.p3, by rw [BK (by omega)]; exact h.p4, by rw [BK (by omega)]; exact h.p5, ?_, ?_, ?_, fun _ => or_at 0, ?_, ?_⟩
 ·intro q hq hL
  obtain ⟨o1, o2, _⟩ := v_ops q hq
  obtain ⟨s1, s2⟩ := v_slots q hq
  rw [BK (by omega)]
  exact h.vals q hq (by rw [CN o2] at hL; exact hL)
 ·intro q hq hL; exact or_at 0
 ·intro hL
  refine ⟨w.heap.size, [], upd_at _ _ _, h.ext.size, m, fun a v => ⟨fun h => (by cases h), ?_⟩⟩
  rintro ⟨q, hq, h1, h2⟩
  obtain ⟨o1, o2, _⟩ := i_ops q hq
  rw [CN o2, hno q hq] at h1; cases h1
 ·intro hL
  rw [CN (by omega)] at hL
  rw [h.ord65 hL] at h0; cases h0
 ·intro hL
  rw [CN (by omega)] at hL
  rw [h.ord65 (h.l66 hL).2] at h0; cases h0
theorem StyInv.none {q : Nat × Int × Value} {M : List (Int × Value)} (h : StyInv b1 b2 wd ds0 L f ds w) (hq : q ∈ insT) (hL : L q.1 = false) (hm : ∀ k v, (k, v) ∈ M ↔ ∃ p ∈ insT, L p.1 = true ∧ k = p.2.1 ∧ v = p.2.2) : M.lookup q.2.1 = none := by
 refine vlookup_none fun p hp e => ?_
 obtain ⟨x, hx, h1, h2, _⟩ := (hm p.1 p.2).1 hp
 rw [i_ukey hx hq (by rw [← h2, e]), hL] at h1
 cases h1
theorem BF {q : Nat × Int × Value} {r : Nat} {M : List (Int × Value)} (h : StyInv b1 b2 wd ds0 L f ds w) (hq : q ∈ insT) (hr : f 8 = .map (some r)) (hlr : wd.heap.size ≤ r) (hm : ∀ k v, (k, v) ∈ M ↔ ∃ p ∈ insT, L p.1 = true ∧ k = p.2.1 ∧ v = p.2.2)
  (k : Keep [r] w w') (m : VMap w' r (M ++ [(q.2.1, q.2.2)])) (h0 : L 0 = true) : StyInv b1 b2 wd ds0 (fun j => j == q.1 || L j) f ds w' := by
 obtain ⟨o1, o2, o3, o4, o5⟩ := i_ops q hq
 have hv : ∀ p ∈ valT, p.1 ≠ q.1 := fun p hp e => o5 (List.mem_map.2 ⟨p, hp, e⟩)
 have hz : (0 == q.1 || L 0) = true := by rw [h0]; simp
 refine ⟨h.ds, h.ext.keep k (by simpa using hlr), h.p1, h.p2, h.p3, h.p4, h.p5, ?_, fun _ _ _ => hz, ?_, fun _ => hz, ?_, ?_⟩
 ·intro p hp hL
  rw [CN (hv p hp)] at hL
  exact h.vals p hp hL
 ·intro _
  refine ⟨r, _, hr, hlr, m, fun a v => ?_⟩
  rw [List.mem_append, hm]
  constructor
  ·rintro (⟨p, hp, h1, h2, h3⟩ | h1)
   ·exact ⟨p, hp, by rw [h1]; simp, h2, h3⟩
   ·simp only [List.mem_singleton, Prod.mk.injEq] at h1
    exact ⟨q, hq, or_at _, h1.1, h1.2⟩
  ·rintro ⟨p, hp, h1, h2, h3⟩
   by_cases e : p.1 = q.1
   ·have := i_uop hp hq e
    subst this
    right; simp [h2, h3]
   ·rw [CN e] at h1
    exact .inl ⟨p, hp, h1, h2, h3⟩
 ·intro hL
  rw [CN (Ne.symm o3)] at hL
  exact h.l65 hL
 ·intro hL
  rw [CN (Ne.symm o4)] at hL
  rw [CN (Ne.symm o3)]
  exact h.l66 hL
theorem styInv_65 (h : StyInv b1 b2 wd ds0 L f ds w) (h0 : L 0 = true) : StyInv b1 b2 wd ds0 (fun j => j == 65 || L j) (upd f 54 (f 8)) ds w := by
 refine ⟨h.ds, h.ext, by rw [BK (by omega)]; exact h.p1, by rw [BK (by omega)]; exact h.p2, by rw [BK (by omega)]; exact h.p3, by rw [BK (by omega)]; exact h.p4, by rw [BK (by omega)]; exact h.p5, ?_, ?_, ?_, ?_, ?_, ?_⟩
 ·intro q hq hL
  obtain ⟨o1, o2, o3, _⟩ := v_ops q hq
  obtain ⟨s1, s2⟩ := v_slots q hq
  rw [BK (by omega)]
  exact h.vals q hq (by rw [CN o3] at hL; exact hL)
 ·intro q hq hL; rw [h0]; rfl
 ·intro _
  obtain ⟨r, M, e1, e2, e3, e4⟩ := h.map h0
  refine ⟨r, M, by rw [BK (by omega)]; exact e1, e2, e3, fun a v => ?_⟩
  rw [e4]
  constructor
  ·rintro ⟨q, hq, h1, h2⟩; exact ⟨q, hq, by rw [h1]; simp, h2⟩
  ·rintro ⟨q, hq, h1, h2⟩
   obtain ⟨_, _, o3, _⟩ := i_ops q hq
   rw [CN o3] at h1; exact ⟨q, hq, h1, h2⟩
 ·intro _; rw [h0]; rfl
 ·intro _; rw [upd_at, BK (by omega)]
 ·intro hL
  rw [CN (by omega)] at hL
  rw [BK (by omega), BK (by omega)]
  exact ⟨(h.l66 hL).1, or_at 65⟩
theorem styInv_66 (h : StyInv b1 b2 wd ds0 L f ds w) (h65 : L 65 = true) : StyInv b1 b2 wd ds0 (fun j => j == 66 || L j) (upd f 0 (f 54)) ds w := by
 have h0 := h.ord65 h65
 refine ⟨h.ds, h.ext, by rw [BK (by omega)]; exact h.p1, by rw [BK (by omega)]; exact h.p2, by rw [BK (by omega)]; exact h.p3, by rw [BK (by omega)]; exact h.p4, by rw [BK (by omega)]; exact h.p5, ?_, ?_, ?_, ?_, ?_, ?_⟩
 ·intro q hq hL
  obtain ⟨o1, o2, o3, o4, _⟩ := v_ops q hq
  obtain ⟨s1, s2⟩ := v_slots q hq
  rw [BK (by omega)]
  exact h.vals q hq (by rw [CN o4] at hL; exact hL)
 ·intro q hq hL; rw [h0]; rfl
 ·intro _
  obtain ⟨r, M, e1, e2, e3, e4⟩ := h.map h0
  refine ⟨r, M, by rw [BK (by omega)]; exact e1, e2, e3, fun a v => ?_⟩
  rw [e4]
  constructor
  ·rintro ⟨q, hq, h1, h2⟩; exact ⟨q, hq, by rw [h1]; simp, h2⟩
  ·rintro ⟨q, hq, h1, h2⟩
   obtain ⟨_, _, _, o4, _⟩ := i_ops q hq
   rw [CN o4] at h1; exact ⟨q, hq, h1, h2⟩
 ·intro _; rw [h0]; rfl
 ·intro _; rw [BK (by omega), BK (by omega)]; exact h.l65 h65
 ·intro hL
  rw [upd_at, BK (by omega), h.l65 h65, h65]
  exact ⟨rfl, by simp⟩
end
end Go.Proofs.YtfcgdbmoncnibaaGreatDoor
