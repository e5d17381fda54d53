/- The parser: values in a row, loops that read them. Joins: what holds behind a branch, as a function of a state. The parser: signals, requirements. The parser: parts, specifications, edits. The parser: specifications, edits. The reference: formulas compared. Conditions: none. -/
import Derived.Test.YtfcgdbmoncnibaaGreatDoorZF5

namespace Go.Proofs.YtfcgdbmoncnibaaGreatDoor
open Go.RowKit
set_option linter.unusedVariables false
variable {mk : Prop} [MK mk]
structure Rp (α : Type) where
 fits : (Nat → Prop) → World → List Value → α → Prop
 size : Nat
 len : ∀ {ok w c a}, fits ok w c a → c.length = size
 one : ∀ {ok w c a}, fits ok w c a → oneC c
 keep : ∀ {ok X w w' c a}, fits ok w c a → Keep X w w' → (∀ b, ok b → b ∉ X) → fits ok w' c a
 lt : ∀ {ok w c a}, fits ok w c a → fits (fun b => ok b ∧ b < w.heap.size) w c a
 mono : ∀ {ok ok' : Nat → Prop} {w c a}, fits ok w c a → (∀ b, ok b → ok' b) → fits ok' w c a
theorem Rp.ext {α : Type} (R : Rp α) {ok : Nat → Prop} {w w' : World} {c : List Value} {a : α} (h : R.fits ok w c a) (k : Ext w w') : R.fits ok w' c a := R.keep h k fun _ _ => by simp
def RsAt {α : Type} (R : Rp α) (ok : Nat → Prop) (w : World) (L : List (List Value)) (l : List α) : Prop :=
 L.length = l.length ∧ ∀ (i : Nat) (c : List Value) (a : α), L[i]? = some c → l[i]? = some a → R.fits ok w c a
section
variable {α : Type} {R : Rp α} {ok : Nat → Prop} {w w' : World} {L : List (List Value)} {l : List α}
theorem RsAt.nil : RsAt R ok w [] [] := ⟨rfl, fun i c g h => by simp at h⟩
theorem RsAt.keep {X : List Nat} (h : RsAt R ok w L l) (k : Keep X w w') (hX : ∀ b, ok b → b ∉ X) : RsAt R ok w' L l := ⟨h.1, fun i c a hc ha => R.keep (h.2 i c a hc ha) k hX⟩
theorem RsAt.ext (h : RsAt R ok w L l) (k : Ext w w') : RsAt R ok w' L l := h.keep k fun _ _ => by simp
theorem RsAt.lt (h : RsAt R ok w L l) : RsAt R (fun b => ok b ∧ b < w.heap.size) w L l := ⟨h.1, fun i c a hc ha => R.lt (h.2 i c a hc ha)⟩
theorem RsAt.mono {ok' : Nat → Prop} (h : RsAt R ok w L l) (hk : ∀ b, ok b → ok' b) : RsAt R ok' w L l := ⟨h.1, fun i c a hc ha => R.mono (h.2 i c a hc ha) hk⟩
theorem RsAt.app {M : List (List Value)} {m : List α} (h : RsAt R ok w L l) (h' : RsAt R ok w M m) : RsAt R ok w (L ++ M) (l ++ m) := by
 refine ⟨by simp [h.1, h'.1], fun i c a hc ha => ?_⟩
 by_cases hi : i < L.length
 ·rw [List.getElem?_append_left hi] at hc
  rw [List.getElem?_append_left (by rw [← h.1]; exact hi)] at ha
  exact h.2 i c a hc ha
 ·rw [List.getElem?_append_right (by omega)] at hc
  rw [List.getElem?_append_right (by rw [← h.1]; omega), ← h.1] at ha
  exact h'.2 _ c a hc ha
theorem RsAt.one {c : List Value} {a : α} (h : R.fits ok w c a) : RsAt R ok w [c] [a] := by
 refine ⟨rfl, fun i d b hd hb => ?_⟩
 cases i with
 | zero => simp at hd hb; subst hd; subst hb; exact h
 | succ i => simp at hd
theorem RsAt.snoc {c : List Value} {a : α} (h : RsAt R ok w L l) (h' : R.fits ok w c a) : RsAt R ok w (L ++ [c]) (l ++ [a]) := h.app (RsAt.one h')
theorem RsAt.len (h : RsAt R ok w L l) : ∀ c ∈ L, c.length = R.size := by
 intro c hc
 obtain ⟨i, hi⟩ := List.getElem?_of_mem hc
 have hlt : i < l.length := by have := (List.getElem?_eq_some_iff.1 hi).1; rw [h.1] at this; exact this
 exact R.len (h.2 i c _ hi (List.getElem?_eq_getElem hlt))
theorem CG (n : Nat) : ∀ L : List (List Value), (∀ c ∈ L, c.length = n) → L.flatten.length = L.length * n
 | [], _ => by simp
 | c :: L, h => by
  have := h c (by simp)
  have ih := CG n L fun d hd => h d (by simp [hd])
  simp only [List.flatten_cons, List.length_append, List.length_cons, ih, Nat.succ_mul]; omega
theorem RsAt.flat (h : RsAt R ok w L l) : L.flatten.length = l.length * R.size := by rw [← h.1]; exact CG _ L h.len
theorem RsAt.oneC (h : RsAt R ok w L l) : oneC L.flatten := by
 intro u hu
 obtain ⟨c, hc, hu⟩ := List.mem_flatten.1 hu
 obtain ⟨i, hi⟩ := List.getElem?_of_mem hc
 have hlt : i < l.length := by have := (List.getElem?_eq_some_iff.1 hi).1; rw [h.1] at this; exact this
 exact R.one (h.2 i c _ hi (List.getElem?_eq_getElem hlt)) u hu
end
def SlAt {α : Type} (R : Rp α) (ok : Nat → Prop) (w : World) (v : Value) (l : List α) : Prop := ∃ a c L, v = .slice a l.length c ∧ Sl ok w v l.length L.flatten ∧ RsAt R ok w L l
def Ce (x : Sgn) : List Value := [AM x.name, .bool x.input, .int .i64 x.size]
def sgnR : Rp Sgn where
 fits _ _ c x := c = Ce x
 size := 3
 len h := by subst h; rfl
 one h := by subst h; intro u hu; simp [Ce] at hu; rcases hu with rfl | rfl | rfl <;> rfl
 keep h _ _ := h
 lt h := h
 mono h _ := h
def reqR : Rp Rqm where
 fits ok w c x := ∃ d : List Value, c = [AM x.part, AM x.name, .int .i64 x.kind] ++ d ∧ d.length = 5 ∧ FAt ok w (.agg d.toArray) x.formula
 size := 8
 len h := by obtain ⟨d, rfl, hd, _⟩ := h; simp [hd]
 one h := by
  obtain ⟨d, rfl, hd, hf⟩ := h
  obtain ⟨d', e, _, h1⟩ := hf.cells
  have : d = d' := by simpa using e
  subst this
  intro u hu
  rcases List.mem_append.1 hu with hu | hu
  ·simp at hu; rcases hu with rfl | rfl | rfl <;> rfl
  ·exact h1 u hu
 keep h k hX := by obtain ⟨d, e, hd, hf⟩ := h; exact ⟨d, e, hd, hf.keep k hX⟩
 lt h := by obtain ⟨d, e, hd, hf⟩ := h; exact ⟨d, e, hd, hf.lt⟩
 mono h hk := by obtain ⟨d, e, hd, hf⟩ := h; exact ⟨d, e, hd, hf.mono hk⟩
theorem Sl_ltR {α : Type} {R : Rp α} {ok : Nat → Prop} {w : World} {v : Value} {L : List (List Value)} {l : List α} (hR : 0 < R.size) (h : Sl ok w v l.length L.flatten) (h' : RsAt R ok w L l) : Sl (fun b => ok b ∧ b < w.heap.size) w v l.length L.flatten := by
 refine h.lt fun h0 e => ?_
 have := h'.flat
 rw [e] at this
 have h1 : 0 < l.length * R.size := Nat.mul_pos (by omega) hR
 simp at this; omega
def listR {α : Type} (R : Rp α) (hR : 0 < R.size) : Rp (List α) where
 fits ok w c l := ∃ v, c = [v] ∧ SlAt R ok w v l
 size := 1
 len h := by obtain ⟨v, rfl, _⟩ := h; rfl
 one h := by obtain ⟨v, rfl, a, c, L, rfl, _⟩ := h; intro u hu; simp at hu; subst hu; rfl
 keep h k hX := by obtain ⟨v, e, a, c, L, hv, h1, h2⟩ := h; exact ⟨v, e, a, c, L, hv, h1.keep k hX, h2.keep k hX⟩
 lt h := by obtain ⟨v, e, a, c, L, hv, h1, h2⟩ := h; exact ⟨v, e, a, c, L, hv, Sl_ltR hR h1 h2, h2.lt⟩
 mono h hk := by obtain ⟨v, e, a, c, L, hv, h1, h2⟩ := h; exact ⟨v, e, a, c, L, hv, h1.mono hk, h2.mono hk⟩
structure WhileP {α : Type} (pm : G Bool) (pi : G α) (pl : G (List α)) : Prop where
 done : ∀ {t}, Run pm t (.ok (false, t)) → Run pl t (.ok ([], t))
 more : ∀ {t t2 t3 a l}, Run pm t (.ok (true, t)) → Run pi t (.ok (a, t2)) → Run pl t2 (.ok (l, t3)) → Run pl t (.ok (a :: l, t3))
 err1 : ∀ {t e}, Run pm t (.ok (true, t)) → Run pi t (.error e) → Run pl t (.error e)
 err2 : ∀ {t t2 a e}, Run pm t (.ok (true, t)) → Run pi t (.ok (a, t2)) → Run pl t2 (.error e) → Run pl t (.error e)
 less : ∀ {t t2 a}, Run pm t (.ok (true, t)) → Run pi t (.ok (a, t2)) → t2.length < t.length
def prepL {α : Type} (l : List α) : Ans (List α) → Ans (List α)
 | .ok y => .ok (l ++ y.1, y.2)
 | .error e => .error e
theorem WhileP.step {α : Type} {pm : G Bool} {pi : G α} {pl : G (List α)} (h : WhileP pm pi pl) {t t2 : List Tok} {a : α} (h1 : Run pm t (.ok (true, t))) (h2 : Run pi t (.ok (a, t2))) {r : Ans (List α)} (hr : Run pl t2 r) : Run pl t (prepL [a] r) := by
 cases r with
 | ok y => exact h.more h1 h2 hr
 | error e => exact h.err2 h1 h2 hr
theorem prepL_app {α : Type} (l m : List α) (r : Ans (List α)) : prepL l (prepL m r) = prepL (l ++ m) r := by
 cases r <;> simp [prepL]
theorem prepL_nil {α : Type} (r : Ans (List α)) : prepL [] r = r := by cases r <;> simp [prepL]
def ItemR {α : Type} (R : Rp α) (val : List Value → Value) (E : Env) (N : Nat) (g : FuncId) (pi : G α) : Prop := ∀ (w : World) (ts : List Tok), PW w E ts → ts.length ≤ N → PDo E g [pt E.s] w pi ts (fun w' v a => ∃ c, v = val c ∧ R.fits (fresh w) w' c a)
def aggV (c : List Value) : Value := .agg c.toArray
def oneV (c : List Value) : Value := c.headD undef
def MoreOk (E : Env) (w0 : World) (g : FuncId) (v1 v2 : List Value) (pm : G Bool) : Prop := ∀ (w : World) (ts : List Tok), Keep [E.s] w0 w → PW w E ts → Fn Tryz.prog g (v1 ++ [] ++ v2) w (fun v w' => ∃ b, v = .bool b ∧ Run pm ts (.ok (b, ts)) ∧ w' = w)
theorem madeSgn : (madeCells (Value.agg #[AM [], .bool false, .int .i64 0]).cells (1 * 3)).toList = [AM [], .bool false, .int .i64 0] := by kernel_rfl
theorem madeReq : (madeCells (Value.agg #[AM [], AM [], .int .i64 0, .int .i64 0, AM [], .int .i64 0, .int .i64 0, .slice none 0 0]).cells (1 * 8)).toList = [AM [], AM [], .int .i64 0, .int .i64 0, AM [], .int .i64 0, .int .i64 0, .slice none 0 0] := by kernel_rfl
theorem madeSl : (madeCells (Value.slice none 0 0).cells (1 * 1)).toList = [.slice none 0 0] := by kernel_rfl
theorem cells3 {cs : List Value} (h : cs.length = 3) : ∃ c0 c1 c2, cs = [c0, c1, c2] := by
 match cs, h with
 | [c0, c1, c2], _ => exact ⟨_, _, _, rfl⟩
theorem cells8' {cs : List Value} (h : cs.length = 8) : ∃ c0 c1 c2 c3 c4 c5 c6 c7, cs = [c0, c1, c2, c3, c4, c5, c6, c7] := by
 match cs, h with
 | [c0, c1, c2, c3, c4, c5, c6, c7], _ => exact ⟨_, _, _, _, _, _, _, _, rfl⟩
theorem whileSgn_ok (E : Env) (N : Nat) (gm g : FuncId) [AR Tryz.prog gm] [AR Tryz.prog g] (v1 v2 : List Value) (pm : G Bool) (pi : G Sgn) (pl : G (List Sgn)) (hC : WhileP pm pi pl) (w : World) (ts : List Tok) (hM : MoreOk E w gm v1 v2 pm)
  (hI : ItemR sgnR aggV E N g pi) (h : PW w E ts) (hN : ts.length ≤ N) :
  PDo E 94 [.func (.func gm) v1.toArray v2.toArray, .func (.func g) #[pt E.s] #[]] w pl ts (fun w' v l => ∃ L, w'.ownsRow w.heap.size 72 3 v l.length L.flatten ∧ RsAt sgnR (fun b => fresh w b ∧ v.ownBlock ≠ some b) w' L l) := by
 have hsl := h.st.slt
 unfold PDo
 refine Aq Tryz.func94 rfl Tryz.ntmps94 (Nat.le_of_ble_eq_true rfl) (by kernel_rfl) ?_
 repeat refine nx rfl ?_
 refine AA (AB (Ah rfl ?_))
 repeat refine nx rfl ?_
 refine AA (AB (Ah rfl ?_))
 repeat refine nx rfl ?_
 refine BY (α := Value × List (List Value) × List _ × List Tok) (fun x => [(0, .func (.func gm) v1.toArray v2.toArray), (1, .func (.func g) #[pt E.s] #[]), (5, x.1)])
  (fun x W => Keep [E.s] w W ∧ PW W E x.2.2.2 ∧ x.2.2.1.length + x.2.2.2.length ≤ ts.length ∧ x.2.2.2.length ≤ ts.length ∧ W.ownsRow w.heap.size 72 3 x.1 x.2.2.1.length x.2.1.flatten ∧ RsAt (sgnR) (fun b => fresh w b ∧ x.1.ownBlock ≠ some b) W x.2.1 x.2.2.1 ∧
   ∀ r, Run pl x.2.2.2 r → Run pl ts (prepL x.2.2.1 r))
  (fun x => x.2.2.2.length) (.slice none 0 0, [], [], ts) ⟨rfl, rfl, rfl, trivial⟩ ⟨Keep.refl _ _, h, by simp, Nat.le_refl _, ⟨by simp, .inl ⟨rfl, rfl⟩⟩, RsAt.nil, fun r hr => by rw [prepL_nil]; exact hr⟩ ?_
 rintro ⟨v, L, l, cur⟩ w3 f3 ⟨k3, h3, hcnt, hcur, o3, F3, hcont⟩
 simp only at k3 h3 hcur hcnt o3 F3 hcont ⊢
 repeat refine nx rfl ?_
 refine AA (Cl rfl ?_)
 refine Bz (v1 := v1) (v2 := v2) (vs := []) rfl (hM w3 cur k3 h3) rfl ?_
 rintro _ w4 ⟨b, rfl, r4, rfl⟩
 have hsg : ∀ g, v.ownBlock = some g → w.heap.size ≤ g ∧ g < w4.heap.size := fun g hg => Bl o3 hg
 have z3 := k3.size
 refine AI ?_
 cases b with
 | true =>
  repeat refine nx rfl ?_
  refine AA (Ax (Cl rfl ?_))
  refine CD (v1 := [pt E.s]) (v2 := []) (vs := []) rfl (hI w4 cur h3 (by omega)) rfl ?_ ?_
  rotate_left
  ·rintro ch w5 ⟨k5, l, r5, rfl⟩
   repeat refine nx rfl ?_
   exact AV ⟨k3.trans k5 (by simp), l, hcont _ (hC.err1 r4 r5), rfl⟩
  rintro u w5 ⟨k5, a, c2, r5, q5, c, rfl, f5⟩
  have h5 := h3.next k5 q5
  have hc2 := hC.less r4 r5
  have o5 := A5 o3 k5 (fun g hg => by have := hsg g hg; simp; omega)
  have F5 := F3.keep k5 (fun b hb => by have := hb.1; simp [fresh] at this ⊢; omega)
  have k35 := k3.trans k5 (by simp)
  have f5' := (sgnR).lt f5
  have z5 := k5.size
  have hclen := (sgnR).len f5
  have hcone := (sgnR).one f5
  obtain ⟨u0, u1, u2, hcx⟩ := cells3 hclen
  refine AT (out := c) rfl (by omega) (by rw [madeSgn, hcx]; rfl) (fun w6 n6 => ?_)
  have z6 := n6.size
  have o6 := n6.own (n := 1) (size := 3) hclen (by unfold maxLen; omega) (Nat.le_refl _)
  have hts2 := h.st.cnt
  refine CU (ok := BH) (v := v) (sv := .slice (some ⟨w5.heap.size, 0, none⟩) 1 1) rfl rfl (B7 o5 n6.keep) (BF o6 fun _ _ => trivial) (by omega) rfl hclen hcone (by omega) (by omega) (by omega) (fun v7 w7 a7 => ?_)
  refine AB (Ax ?_)
  repeat refine nx rfl ?_
  have o7 := a7.own
  have h7 := (h5.ext n6.keep).keep a7.keep (fun x hx => by have := hsg x (Option.mem_toList.1 hx); omega)
  have hv7 : ∀ b, v7.ownBlock = some b → v.ownBlock = some b ∨ b = w6.heap.size := fun b hb => by
   rcases a7.blk with e | e
   ·exact .inl (by rw [← e]; exact hb)
   ·rw [e] at hb; exact .inr (Option.some.inj hb).symm
  have F7 : RsAt (sgnR) (fun b => fresh w b ∧ v7.ownBlock ≠ some b) w7 L l := by
   refine ((F5.lt.ext n6.keep).keep a7.keep ?_).mono ?_
   ·rintro b ⟨⟨_, hb⟩, _⟩ hx; exact hb (Option.mem_toList.1 hx)
   ·rintro b ⟨⟨h1, hb⟩, hlt⟩
    refine ⟨h1, fun e => ?_⟩
    rcases hv7 b e with e | e
    ·exact hb e
    ·omega
  have f7 : (sgnR).fits (fun b => fresh w b ∧ v7.ownBlock ≠ some b) w7 c a := by
   refine (sgnR).mono ((sgnR).keep ((sgnR).ext f5' n6.keep) a7.keep ?_) ?_
   ·rintro b ⟨hb, hlt⟩ hx
    have := hsg b (Option.mem_toList.1 hx)
    simp [fresh] at hb; omega
   ·rintro b ⟨hb, hlt⟩
    simp only [fresh] at hb ⊢
    refine ⟨by omega, fun e => ?_⟩
    rcases hv7 b e with e | e
    ·have := hsg b e; omega
    ·omega
  refine ⟨(v7, L ++ [c], l ++ [a], c2), ⟨rfl, ⟨rfl, rfl, rfl, trivial⟩, ⟨?_, h7, by simp only [List.length_append, List.length_cons, List.length_nil] at hcnt ⊢; omega, by simp only; omega, ?_, F7.snoc f7, fun r hr => ?_⟩⟩, by simp only; omega⟩
  ·exact (k35.ext n6.keep).trans a7.keep (fun x hx hlt => by have := hsg x (Option.mem_toList.1 hx); omega)
  ·have e1 : (L ++ [c]).flatten = L.flatten ++ c := by simp
   simp only
   rw [e1, List.length_append]
   exact o7
  ·rw [← prepL_app]
   exact hcont _ (hC.step r4 r5 hr)
 | false =>
  repeat first | refine nx rfl ?_ | refine nf rfl ?_
  refine AA (Ax (AB (Ax (AI ?_))))
  have hS := BF (ok := fresh w) o3 (fun g hg => (hsg g hg).1)
  obtain ⟨sa, sc, rfl, _⟩ := id hS
  repeat refine nx rfl ?_
  have e2 := hcont _ (hC.done r4)
  simp only [prepL, List.append_nil] at e2
  exact AP rfl ⟨k3, l, cur, e2, h3.st, L, o3, F3⟩
theorem whileReq_ok (E : Env) (N : Nat) (gm g : FuncId) [AR Tryz.prog gm] [AR Tryz.prog g] (v1 v2 : List Value) (pm : G Bool) (pi : G Rqm) (pl : G (List Rqm)) (hC : WhileP pm pi pl) (w : World) (ts : List Tok) (hM : MoreOk E w gm v1 v2 pm)
  (hI : ItemR reqR aggV E N g pi) (h : PW w E ts) (hN : ts.length ≤ N) :
  PDo E 130 [.func (.func gm) v1.toArray v2.toArray, .func (.func g) #[pt E.s] #[]] w pl ts (fun w' v l => ∃ L, w'.ownsRow w.heap.size 30 8 v l.length L.flatten ∧ RsAt reqR (fun b => fresh w b ∧ v.ownBlock ≠ some b) w' L l) := by
 have hsl := h.st.slt
 unfold PDo
 refine Aq Tryz.func130 rfl Tryz.ntmps130 (Nat.le_of_ble_eq_true rfl) (by kernel_rfl) ?_
 repeat refine nx rfl ?_
 refine AA (AB (Ah rfl ?_))
 repeat refine nx rfl ?_
 refine AA (AB (Ah rfl ?_))
 repeat refine nx rfl ?_
 refine BY (α := Value × List (List Value) × List _ × List Tok) (fun x => [(0, .func (.func gm) v1.toArray v2.toArray), (1, .func (.func g) #[pt E.s] #[]), (5, x.1)])
  (fun x W => Keep [E.s] w W ∧ PW W E x.2.2.2 ∧ x.2.2.1.length + x.2.2.2.length ≤ ts.length ∧ x.2.2.2.length ≤ ts.length ∧ W.ownsRow w.heap.size 30 8 x.1 x.2.2.1.length x.2.1.flatten ∧ RsAt (reqR) (fun b => fresh w b ∧ x.1.ownBlock ≠ some b) W x.2.1 x.2.2.1 ∧
   ∀ r, Run pl x.2.2.2 r → Run pl ts (prepL x.2.2.1 r))
  (fun x => x.2.2.2.length) (.slice none 0 0, [], [], ts) ⟨rfl, rfl, rfl, trivial⟩ ⟨Keep.refl _ _, h, by simp, Nat.le_refl _, ⟨by simp, .inl ⟨rfl, rfl⟩⟩, RsAt.nil, fun r hr => by rw [prepL_nil]; exact hr⟩ ?_
 rintro ⟨v, L, l, cur⟩ w3 f3 ⟨k3, h3, hcnt, hcur, o3, F3, hcont⟩
 simp only at k3 h3 hcur hcnt o3 F3 hcont ⊢
 repeat refine nx rfl ?_
 refine AA (Cl rfl ?_)
 refine Bz (v1 := v1) (v2 := v2) (vs := []) rfl (hM w3 cur k3 h3) rfl ?_
 rintro _ w4 ⟨b, rfl, r4, rfl⟩
 have hsg : ∀ g, v.ownBlock = some g → w.heap.size ≤ g ∧ g < w4.heap.size := fun g hg => Bl o3 hg
 have z3 := k3.size
 refine AI ?_
 cases b with
 | true =>
  repeat refine nx rfl ?_
  refine AA (Ax (Cl rfl ?_))
  refine CD (v1 := [pt E.s]) (v2 := []) (vs := []) rfl (hI w4 cur h3 (by omega)) rfl ?_ ?_
  rotate_left
  ·rintro ch w5 ⟨k5, l, r5, rfl⟩
   repeat refine nx rfl ?_
   exact AV ⟨k3.trans k5 (by simp), l, hcont _ (hC.err1 r4 r5), rfl⟩
  rintro u w5 ⟨k5, a, c2, r5, q5, c, rfl, f5⟩
  have h5 := h3.next k5 q5
  have hc2 := hC.less r4 r5
  have o5 := A5 o3 k5 (fun g hg => by have := hsg g hg; simp; omega)
  have F5 := F3.keep k5 (fun b hb => by have := hb.1; simp [fresh] at this ⊢; omega)
  have k35 := k3.trans k5 (by simp)
  have f5' := (reqR).lt f5
  have z5 := k5.size
  have hclen := (reqR).len f5
  have hcone := (reqR).one f5
  obtain ⟨u0, u1, u2, u3, u4, u5, u6, u7, hcx⟩ := cells8' hclen
  refine AT (out := c) rfl (by omega) (by rw [madeReq, hcx]; rfl) (fun w6 n6 => ?_)
  have z6 := n6.size
  have o6 := n6.own (n := 1) (size := 8) hclen (by unfold maxLen; omega) (Nat.le_refl _)
  have hts2 := h.st.cnt
  refine CU (ok := BH) (v := v) (sv := .slice (some ⟨w5.heap.size, 0, none⟩) 1 1) rfl rfl (B7 o5 n6.keep) (BF o6 fun _ _ => trivial) (by omega) rfl hclen hcone (by omega) (by omega) (by omega) (fun v7 w7 a7 => ?_)
  refine AB (Ax ?_)
  repeat refine nx rfl ?_
  have o7 := a7.own
  have h7 := (h5.ext n6.keep).keep a7.keep (fun x hx => by have := hsg x (Option.mem_toList.1 hx); omega)
  have hv7 : ∀ b, v7.ownBlock = some b → v.ownBlock = some b ∨ b = w6.heap.size := fun b hb => by
   rcases a7.blk with e | e
   ·exact .inl (by rw [← e]; exact hb)
   ·rw [e] at hb; exact .inr (Option.some.inj hb).symm
  have F7 : RsAt (reqR) (fun b => fresh w b ∧ v7.ownBlock ≠ some b) w7 L l := by
   refine ((F5.lt.ext n6.keep).keep a7.keep ?_).mono ?_
   ·rintro b ⟨⟨_, hb⟩, _⟩ hx; exact hb (Option.mem_toList.1 hx)
   ·rintro b ⟨⟨h1, hb⟩, hlt⟩
    refine ⟨h1, fun e => ?_⟩
    rcases hv7 b e with e | e
    ·exact hb e
    ·omega
  have f7 : (reqR).fits (fun b => fresh w b ∧ v7.ownBlock ≠ some b) w7 c a := by
   refine (reqR).mono ((reqR).keep ((reqR).ext f5' n6.keep) a7.keep ?_) ?_
   ·rintro b ⟨hb, hlt⟩ hx
    have := hsg b (Option.mem_toList.1 hx)
    simp [fresh] at hb; omega
   ·rintro b ⟨hb, hlt⟩
    simp only [fresh] at hb ⊢
    refine ⟨by omega, fun e => ?_⟩
    rcases hv7 b e with e | e
    ·have := hsg b e; omega
    ·omega
  refine ⟨(v7, L ++ [c], l ++ [a], c2), ⟨rfl, ⟨rfl, rfl, rfl, trivial⟩, ⟨?_, h7, by simp only [List.length_append, List.length_cons, List.length_nil] at hcnt ⊢; omega, by simp only; omega, ?_, F7.snoc f7, fun r hr => ?_⟩⟩, by simp only; omega⟩
  ·exact (k35.ext n6.keep).trans a7.keep (fun x hx hlt => by have := hsg x (Option.mem_toList.1 hx); omega)
  ·have e1 : (L ++ [c]).flatten = L.flatten ++ c := by simp
   simp only
   rw [e1, List.length_append]
   exact o7
  ·rw [← prepL_app]
   exact hcont _ (hC.step r4 r5 hr)
 | false =>
  repeat first | refine nx rfl ?_ | refine nf rfl ?_
  refine AA (Ax (AB (Ax (AI ?_))))
  have hS := BF (ok := fresh w) o3 (fun g hg => (hsg g hg).1)
  obtain ⟨sa, sc, rfl, _⟩ := id hS
  repeat refine nx rfl ?_
  have e2 := hcont _ (hC.done r4)
  simp only [prepL, List.append_nil] at e2
  exact AP rfl ⟨k3, l, cur, e2, h3.st, L, o3, F3⟩
def reqsR : Rp (List Rqm) := listR reqR (by show 0 < 8; decide)
theorem reqs_form {ok : Nat → Prop} {w : World} {c : List Value} {a : List Rqm} (h : reqsR.fits ok w c a) : ∃ sa sc, c = [.slice sa a.length sc] := by
 obtain ⟨v', e1, sa', sc', _, e2, _⟩ := h
 exact ⟨sa', sc', by rw [e1, e2]⟩
theorem whileReqs_ok (E : Env) (N : Nat) (gm g : FuncId) [AR Tryz.prog gm] [AR Tryz.prog g] (v1 v2 : List Value) (pm : G Bool) (pi : G (List Rqm)) (pl : G (List (List Rqm))) (hC : WhileP pm pi pl) (w : World) (ts : List Tok) (hM : MoreOk E w gm v1 v2 pm)
  (hI : ItemR reqsR oneV E N g pi) (h : PW w E ts) (hN : ts.length ≤ N) :
  PDo E 96 [.func (.func gm) v1.toArray v2.toArray, .func (.func g) #[pt E.s] #[]] w pl ts (fun w' v l => ∃ L, w'.ownsRow w.heap.size 26 1 v l.length L.flatten ∧ RsAt reqsR (fun b => fresh w b ∧ v.ownBlock ≠ some b) w' L l) := by
 have hsl := h.st.slt
 unfold PDo
 refine Aq Tryz.func96 rfl Tryz.ntmps96 (Nat.le_of_ble_eq_true rfl) (by kernel_rfl) ?_
 repeat refine nx rfl ?_
 refine AA (AB (Ah rfl ?_))
 repeat refine nx rfl ?_
 refine AA (AB (Ah rfl ?_))
 repeat refine nx rfl ?_
 refine BY (α := Value × List (List Value) × List _ × List Tok) (fun x => [(0, .func (.func gm) v1.toArray v2.toArray), (1, .func (.func g) #[pt E.s] #[]), (5, x.1)])
  (fun x W => Keep [E.s] w W ∧ PW W E x.2.2.2 ∧ x.2.2.1.length + x.2.2.2.length ≤ ts.length ∧ x.2.2.2.length ≤ ts.length ∧ W.ownsRow w.heap.size 26 1 x.1 x.2.2.1.length x.2.1.flatten ∧ RsAt (reqsR) (fun b => fresh w b ∧ x.1.ownBlock ≠ some b) W x.2.1 x.2.2.1 ∧
   ∀ r, Run pl x.2.2.2 r → Run pl ts (prepL x.2.2.1 r))
  (fun x => x.2.2.2.length) (.slice none 0 0, [], [], ts) ⟨rfl, rfl, rfl, trivial⟩ ⟨Keep.refl _ _, h, by simp, Nat.le_refl _, ⟨by simp, .inl ⟨rfl, rfl⟩⟩, RsAt.nil, fun r hr => by rw [prepL_nil]; exact hr⟩ ?_
 rintro ⟨v, L, l, cur⟩ w3 f3 ⟨k3, h3, hcnt, hcur, o3, F3, hcont⟩
 simp only at k3 h3 hcur hcnt o3 F3 hcont ⊢
 repeat refine nx rfl ?_
 refine AA (Cl rfl ?_)
 refine Bz (v1 := v1) (v2 := v2) (vs := []) rfl (hM w3 cur k3 h3) rfl ?_
 rintro _ w4 ⟨b, rfl, r4, rfl⟩
 have hsg : ∀ g, v.ownBlock = some g → w.heap.size ≤ g ∧ g < w4.heap.size := fun g hg => Bl o3 hg
 have z3 := k3.size
 refine AI ?_
 cases b with
 | true =>
  repeat refine nx rfl ?_
  refine AA (Ax (Cl rfl ?_))
  refine CD (v1 := [pt E.s]) (v2 := []) (vs := []) rfl (hI w4 cur h3 (by omega)) rfl ?_ ?_
  rotate_left
  ·rintro ch w5 ⟨k5, l, r5, rfl⟩
   repeat refine nx rfl ?_
   exact AV ⟨k3.trans k5 (by simp), l, hcont _ (hC.err1 r4 r5), rfl⟩
  rintro u w5 ⟨k5, a, c2, r5, q5, c, rfl, f5⟩
  have h5 := h3.next k5 q5
  have hc2 := hC.less r4 r5
  have o5 := A5 o3 k5 (fun g hg => by have := hsg g hg; simp; omega)
  have F5 := F3.keep k5 (fun b hb => by have := hb.1; simp [fresh] at this ⊢; omega)
  have k35 := k3.trans k5 (by simp)
  have f5' := (reqsR).lt f5
  have z5 := k5.size
  have hclen := (reqsR).len f5
  have hcone := (reqsR).one f5
  obtain ⟨sa', sc', hcx⟩ := reqs_form f5
  refine AT (out := c) rfl (by omega) (by rw [madeSl, hcx]; rfl) (fun w6 n6 => ?_)
  have z6 := n6.size
  have o6 := n6.own (n := 1) (size := 1) hclen (by unfold maxLen; omega) (Nat.le_refl _)
  have hts2 := h.st.cnt
  refine CU (ok := BH) (v := v) (sv := .slice (some ⟨w5.heap.size, 0, none⟩) 1 1) rfl rfl (B7 o5 n6.keep) (BF o6 fun _ _ => trivial) (by omega) rfl hclen hcone (by omega) (by omega) (by omega) (fun v7 w7 a7 => ?_)
  refine AB (Ax ?_)
  repeat refine nx rfl ?_
  have o7 := a7.own
  have h7 := (h5.ext n6.keep).keep a7.keep (fun x hx => by have := hsg x (Option.mem_toList.1 hx); omega)
  have hv7 : ∀ b, v7.ownBlock = some b → v.ownBlock = some b ∨ b = w6.heap.size := fun b hb => by
   rcases a7.blk with e | e
   ·exact .inl (by rw [← e]; exact hb)
   ·rw [e] at hb; exact .inr (Option.some.inj hb).symm
  have F7 : RsAt (reqsR) (fun b => fresh w b ∧ v7.ownBlock ≠ some b) w7 L l := by
   refine ((F5.lt.ext n6.keep).keep a7.keep ?_).mono ?_
   ·rintro b ⟨⟨_, hb⟩, _⟩ hx; exact hb (Option.mem_toList.1 hx)
   ·rintro b ⟨⟨h1, hb⟩, hlt⟩
    refine ⟨h1, fun e => ?_⟩
    rcases hv7 b e with e | e
    ·exact hb e
    ·omega
  have f7 : (reqsR).fits (fun b => fresh w b ∧ v7.ownBlock ≠ some b) w7 c a := by
   refine (reqsR).mono ((reqsR).keep ((reqsR).ext f5' n6.keep) a7.keep ?_) ?_
   ·rintro b ⟨hb, hlt⟩ hx
    have := hsg b (Option.mem_toList.1 hx)
    simp [fresh] at hb; omega
   ·rintro b ⟨hb, hlt⟩
    simp only [fresh] at hb ⊢
    refine ⟨by omega, fun e => ?_⟩
    rcases hv7 b e with e | e
    ·have := hsg b e; omega
    ·omega
  refine ⟨(v7, L ++ [c], l ++ [a], c2), ⟨rfl, ⟨rfl, rfl, rfl, trivial⟩, ⟨?_, h7, by simp only [List.length_append, List.length_cons, List.length_nil] at hcnt ⊢; omega, by simp only; omega, ?_, F7.snoc f7, fun r hr => ?_⟩⟩, by simp only; omega⟩
  ·exact (k35.ext n6.keep).trans a7.keep (fun x hx hlt => by have := hsg x (Option.mem_toList.1 hx); omega)
  ·have e1 : (L ++ [c]).flatten = L.flatten ++ c := by simp
   simp only
   rw [e1, List.length_append]
   exact o7
  ·rw [← prepL_app]
   exact hcont _ (hC.step r4 r5 hr)
 | false =>
  repeat first | refine nx rfl ?_ | refine nf rfl ?_
  refine AA (Ax (AB (Ax (AI ?_))))
  have hS := BF (ok := fresh w) o3 (fun g hg => (hsg g hg).1)
  obtain ⟨sa, sc, rfl, _⟩ := id hS
  repeat refine nx rfl ?_
  have e2 := hcont _ (hC.done r4)
  simp only [prepL, List.append_nil] at e2
  exact AP rfl ⟨k3, l, cur, e2, h3.st, L, o3, F3⟩
end Go.Proofs.YtfcgdbmoncnibaaGreatDoor
namespace Go.Proofs.YtfcgdbmoncnibaaGreatDoor
open Go.RowKit
variable {mk : Prop} [MK mk]
attribute [local semireducible] WC AU Bv BQ Bx Cr C5 Bp
variable {P : Program} {all : Array Oper}
theorem stepP_mono {o : Oper} {f : Fr} {ds : DS} {w : World} {K K' : Value → DS → World → Prop} {Z Z' : List PanicEntry → World → Prop} (hK : ∀ v ds w, K v ds w → K' v ds w) (hZ : ∀ c w, Z c w → Z' c w) (h : Bp P o f ds w K Z) : Bp P o f ds w K' Z' := by
 unfold Bp at h ⊢
 revert h
 generalize (execOp (ev f) o).run P w = res
 intro h
 cases res with
 | halt x w' => cases x <;> first | exact h.elim | exact hZ _ _ h
 | ok m w' =>
  cases m with
  | value v => exact hK _ _ _ h
  | skip => exact hK _ _ _ h
  | defer d => exact hK _ _ _ h
  | enter g args =>
   refine Calls.mono h fun e w'' he => ?_
   cases e with
   | returned v => exact hK _ _ _ he
   | panicked ch => exact hZ _ _ he
   | outgrown => exact he
  | round l g tmps assign body =>
   refine RoundIn.mono h fun e w'' he => ?_
   cases e with
   | returned v => exact hK _ _ _ he
   | panicked ch => exact hZ _ _ he
   | outgrown => exact he
  | _ => exact h.elim
theorem WOps_mono {Z Z' : Fr → DS → List PanicEntry → World → Prop} {K K' : Fr → DS → World → Prop} (hK : ∀ f ds w, K f ds w → K' f ds w) (hZ : ∀ f ds c w, Z f ds c w → Z' f ds c w) : ∀ (l : List Oper) (f : Fr) (ds : DS) (w : World), AU P all Z K l f ds w → AU P all Z' K' l f ds w
 | [], f, ds, w, h => hK f ds w h
 | o :: rest, f, ds, w, h => by
  unfold AU at h ⊢
  split at h
  ·rename_i hg
   rw [if_pos hg]
   exact stepP_mono (fun v ds w hh => WOps_mono hK hZ rest _ ds w hh) (fun c w hh => hZ _ _ _ _ hh) h
  ·rename_i hg
   rw [if_neg hg]
   exact WOps_mono hK hZ rest _ ds w h
theorem WC_mono {n : Cf} : ∀ (c : Code) {Q Q' : Ch} (_ : ∀ e f ds w, Q e f ds w → Q' e f ds w) (f : Fr) (ds : DS) (w : World), WC P n c Q f ds w → WC P n c Q' f ds w
 | .skip, _, _, hQ, f, ds, w, h => hQ _ f ds w h
 | .label _, _, _, hQ, f, ds, w, h => hQ _ f ds w h
 | .ret, _, _, hQ, f, ds, w, h => hQ _ f ds w h
 | .exit _, _, _, hQ, f, ds, w, h => hQ _ f ds w h
 | .goto _, _, _, _, _, _, _, h => h.elim
 | .refuse _, _, _, _, _, _, _, h => h.elim
 | .seq a b, _, _, hQ, f, ds, w, h => by
  refine WC_mono a ?_ f ds w h
  intro e f ds w hh
  cases e with
  | normal => exact WC_mono b hQ f ds w hh
  | _ => exact hQ _ f ds w hh
 | .block id c, _, _, hQ, f, ds, w, h => by
  refine WC_mono c ?_ f ds w h
  intro e f ds w hh
  cases e with
  | exit i =>
   simp only [BQ] at hh ⊢
   split at hh
   ·rename_i hi; rw [if_pos hi]; exact hQ _ f ds w hh
   ·rename_i hi; rw [if_neg hi]; exact hQ _ f ds w hh
  | _ => exact hQ _ f ds w hh
 | .scope c, _, _, hQ, f, ds, w, h => by
  refine WC_mono c ?_ f ds w h
  intro e f ds w hh
  cases e with
  | goto _ => exact hh
  | _ => exact hQ _ f ds w hh
 | .cond c x y, _, _, hQ, f, ds, w, h => by
  simp only [WC] at h ⊢
  cases hc : ev f c <;> simp only [hc] at h ⊢
  case bool b =>
   cases b with
   | true => exact WC_mono x hQ f ds w h
   | false => exact WC_mono y hQ f ds w h
 | .region id ops draw, _, _, hQ, f, ds, w, h => by
  cases draw with
  | false => exact WOps_mono (fun f ds w hh => hQ _ f ds w hh) (fun f ds c w hh => hQ _ f ds w hh) ops.toList f ds w h
  | true => exact fun a h1 h2 h3 => wpIn_mono (h a h1 h2 h3) (lift_mono hQ)
 | .loop c, _, _, hQ, f, ds, w, h => by
  obtain ⟨α, I, μ, x, h0, hr⟩ := h
  refine ⟨α, I, μ, x, h0, fun x f ds w hI => WC_mono c ?_ f ds w (hr x f ds w hI)⟩
  intro e f ds w hh
  cases e with
  | normal => exact hh
  | _ => exact hQ _ f ds w hh
 | .rangeFunc g ps qs body, _, _, hQ, f, ds, w, h => fun a h1 h2 h3 => wpIn_mono (h a h1 h2 h3) (lift_mono hQ)
def joinQ {α : Type} (L : α → List (Nat × Value)) (I : α → World → Prop) (ds : DS) (Q : Ch) : Ch
 | .normal => fun f' ds' w' => ∃ x, ds' = ds ∧ agr (L x) f' ∧ I x w'
 | e => Q e
section
variable {n : Cf} {Q : Ch} {f : Fr} {ds : DS} {w : World} {α : Type} {L : α → List (Nat × Value)} {I : α → World → Prop} {ds0 : DS}
theorem CV {a : Code} {K : Fr → DS → World → Prop} (L : α → List (Nat × Value)) (I : α → World → Prop) (h1 : WC P n a (joinQ L I ds Q) f ds w) (h2 : ∀ x w' f', I x w' → K (ov (L x) f') ds w') : WC P n a (Bv K Q) f ds w := by
 refine WC_mono a ?_ f ds w h1
 intro e f' ds' w' hh
 cases e with
 | normal =>
  obtain ⟨x, rfl, ha, hI⟩ := hh
  have := h2 x w' f' hI
  rw [ov_of_agr ha] at this
  exact this
 | _ => exact hh
theorem Ar (x : α) (ha : agr (L x) f) (hI : I x w) : joinQ L I ds Q .normal f ds w := ⟨x, rfl, ha, hI⟩
instance : Nx (joinQ L I ds0 Q .ret f ds w) (0 = 0) (Q .ret f ds w) := ⟨fun _ h => h⟩
instance {i : Nat} : Nx (joinQ L I ds0 Q (.exit i) f ds w) (0 = 0) (Q (.exit i) f ds w) := ⟨fun _ h => h⟩
instance {c : List PanicEntry} : Nx (joinQ L I ds0 Q (.panic c) f ds w) (0 = 0) (Q (.panic c) f ds w) := ⟨fun _ h => h⟩
end
theorem fin_retA2 {P : Program} {fn : Func} {R : Value → World → Prop} {Y : List PanicEntry → World → Prop} {f : Fr} {w : World} {t u x T n b : Nat} {L : List Value} [hT : AggT P T n] (hr : fn.results.toList = [.cell t T, .tmp u, .tmp x]) (ha : f t = .pointer (some ⟨b, 0, none⟩)) (hl : L.length = n) (hc : Cells w b 0 L) (h : R (.tuple #[.agg L.toArray, f u, f x]) w) : Cr P fn R Y .ret f [] w :=
 ⟨rfl, by rw [hr]; exact ⟨_, _, ha, C9 hT hl hc, h⟩⟩
attribute [irreducible] joinQ
end Go.Proofs.YtfcgdbmoncnibaaGreatDoor
namespace Go.Proofs.YtfcgdbmoncnibaaGreatDoor
open Go.RowKit
set_option linter.unusedVariables false
variable {mk : Prop} [MK mk]
def zero8 : List Value := [AM [], AM [], .int .i64 0, .int .i64 0, AM [], .int .i64 0, .int .i64 0, .slice none 0 0]
theorem signal_ok (E : Env) (N : Nat) : ItemR sgnR aggV E N 95 (body .signal) := by
 intro w ts h hN
 have hsl := h.st.slt
 unfold PDo
 refine Aq Tryz.func95 rfl Tryz.ntmps95 (Nat.le_of_ble_eq_true rfl) (by kernel_rfl) ?_
 repeat refine nx rfl ?_
 refine AA ?_
 refine Aw (fun w1 n1 => ?_)
 have b1 : Blk w1 w.heap.size 72 [AM [], .bool false, .int .i64 0] := n1.blk
 have z1 := n1.size
 have h1 := h.ext n1.keep
 have k1 : Keep [E.s] w w1 := n1.keep.any
 repeat refine nx rfl ?_
 refine AA (AK rfl ?_)
 refine AS (B3 E w1 ts [105, 110, 112, 117, 116] h1.st) rfl ?_
 rintro _ w2 ⟨k2, i, t2, rfl, r2, q2⟩
 have h2 := h1.next k2 q2
 have b2 := b1.keep k2 (by simp <;> omega)
 have k12 := k1.trans k2 (by simp)
 have z2 := k2.size
 refine Ac (by rfl) (by rfl) ?_
 refine BE (cs := [AM [], .bool i, .int .i64 2]) rfl rfl (by rfl) (by intro u hu; simp at hu; rcases hu with rfl | rfl | rfl <;> rfl) (fun w3 n3 => ?_)
 have h3 := h2.ext n3.keep
 have b3 := b2.keep n3.keep (by simp)
 have z3 := n3.size
 have e3 := n3.blk
 have k13 := k12.ext n3.keep
 repeat refine nx rfl ?_
 (refine AA (AD rfl (AG rfl (Blk.cell (by assumption) (by rfl)) ?_)) <;> refine BL rfl ?_)
 repeat refine nx rfl ?_
 refine CV (α := List Tok) (fun _ => [(0, pt E.s), (2, pt w.heap.size), (3, pt w2.heap.size)])
  (fun t W => Run (if i then .ret () else A9 [111, 117, 116, 112, 117, 116] : G Unit) t2 (.ok ((), t)) ∧ PW W E t ∧ Keep [E.s] w W ∧ w3.heap.size ≤ W.heap.size ∧ Blk W w.heap.size 72 [AM [], .bool false, .int .i64 0] ∧ Blk W w2.heap.size 72 [AM [], .bool i, .int .i64 2]) ?_ ?_
 ·cases i with
  | true =>
   repeat first | refine nx rfl ?_ | refine nf rfl ?_
   exact Ar t2 ⟨rfl, rfl, rfl, trivial⟩ ⟨Run.ret _ _, h3, k13, Nat.le_refl _, b3, e3⟩
  | false =>
   repeat refine nx rfl ?_
   refine AA (AK rfl ?_)
   refine AX (Ci E w3 t2 [111, 117, 116, 112, 117, 116] h3.st) rfl ?_ ?_
   rotate_left
   ·rintro ch wq ⟨kq, lq, rq, rfl⟩
    repeat refine nx rfl ?_
    exact AV ⟨k13.trans kq (by simp), lq, r2.bind (Run.bindE rq), rfl⟩
   rintro v w4 ⟨k4, _, t4, r4, q4, rfl⟩
   repeat refine nx rfl ?_
   exact Ar t4 ⟨rfl, rfl, rfl, trivial⟩ ⟨r4, h3.next k4 q4, k13.trans k4 (by simp), k4.size, b3.keep k4 (by simp <;> omega), e3.keep k4 (by simp <;> omega)⟩
 rintro t4 w4 f4 ⟨r4, h4, k14, z4, b4, e4⟩
 repeat refine nx rfl ?_
 refine AA (AK rfl ?_)
 refine AX (pname_ok E w4 t4 h4.st h4.gk) rfl ?_ ?_
 rotate_left
 ·rintro ch wq ⟨kq, lq, rq, rfl⟩
  repeat refine nx rfl ?_
  exact AV ⟨k14.trans kq (by simp), lq, r2.bind (r4.bind (Run.bindE rq)), rfl⟩
 rintro v w5 ⟨k5, s, t5, r5, q5, rfl, hs⟩
 have h5 := h4.next k5 q5
 have b5 := b4.keep k5 (by simp <;> omega)
 have e5 := e4.keep k5 (by simp <;> omega)
 have k15 := k14.trans k5 (by simp)
 have z5 := k5.size
 refine AD rfl ?_
 refine Ak rfl rfl rfl e5 (by simp) (fun w6 p6 => ?_)
 have h6 := h5.keep p6.keep (by simp <;> omega)
 have b6 := b5.keep p6.keep (by simp <;> omega)
 have e6 : Blk w6 w2.heap.size 72 [AM s, .bool i, .int .i64 2] := p6.blk
 have k16 := k15.trans p6.keep (by simp <;> omega)
 have z6 := p6.size
 repeat refine nx rfl ?_
 refine AA (AK rfl ?_)
 refine AS (B3 E w6 t5 [58] h6.st) rfl ?_
 rintro _ w7 ⟨k7, c, t7, rfl, r7, q7⟩
 have h7 := h6.next k7 q7
 have b7 := b6.keep k7 (by simp <;> omega)
 have e7 := e6.keep k7 (by simp <;> omega)
 have k17 := k16.trans k7 (by simp)
 have z7 := k7.size
 repeat refine nx rfl ?_
 refine CV (α := List Tok × Int) (fun _ => [(0, pt E.s), (2, pt w.heap.size), (3, pt w2.heap.size)])
  (fun x W => Run ((Ai [58]).bind fun b => if b then numberG else .ret 2) t5 (.ok (x.2, x.1)) ∧ PW W E x.1 ∧ Keep [E.s] w W ∧ w3.heap.size ≤ W.heap.size ∧ Blk W w.heap.size 72 [AM [], .bool false, .int .i64 0] ∧ Blk W w2.heap.size 72 [AM s, .bool i, .int .i64 x.2]) ?_ ?_
 ·cases c with
  | true =>
   repeat refine nx rfl ?_
   refine AA (AK rfl ?_)
   refine AX (number_ok E w7 t7 h7.st) rfl ?_ ?_
   rotate_left
   ·rintro ch wq ⟨kq, lq, rq, rfl⟩
    repeat refine nx rfl ?_
    exact AV ⟨k17.trans kq (by simp), lq, r2.bind (r4.bind (r5.bind (Run.bindE (r7.bind rq)))), rfl⟩
   rintro v w8 ⟨k8, n, t8, r8, q8, rfl, hn0, hn1⟩
   have h8 := h7.next k8 q8
   have b8 := b7.keep k8 (by simp <;> omega)
   have e8 := e7.keep k8 (by simp <;> omega)
   have z8 := k8.size
   refine AD rfl ?_
   refine Ak rfl rfl rfl e8 (by simp) (fun w9 p9 => ?_)
   have z9 := p9.size
   repeat refine nx rfl ?_
   exact Ar (t8, n) ⟨rfl, rfl, rfl, trivial⟩ ⟨r7.bind r8, h8.keep p9.keep (by simp <;> omega), (k17.trans k8 (by simp)).trans p9.keep (by simp <;> omega), by omega, b8.keep p9.keep (by simp <;> omega), p9.blk⟩
  | false =>
   repeat first | refine nx rfl ?_ | refine nf rfl ?_
   exact Ar (t7, 2) ⟨rfl, rfl, rfl, trivial⟩ ⟨r7.bind (Run.ret _ _), h7, k17, by omega, b7, e7⟩
 rintro ⟨t8, n⟩ w8 f8 ⟨r8, h8, k18, z8, b8, e8⟩
 simp only at r8 h8 e8
 repeat refine nx rfl ?_
 refine AA (AK rfl ?_)
 refine AX (Ci E w8 t8 [59] h8.st) rfl ?_ ?_
 rotate_left
 ·rintro ch wq ⟨kq, lq, rq, rfl⟩
  repeat refine nx rfl ?_
  exact AV ⟨k18.trans kq (by simp), lq, r2.bind (r4.bind (r5.bind (r8.bind (Run.bindE rq)))), rfl⟩
 rintro v w9 ⟨k9, _, t9, r9, q9, rfl⟩
 have b9 := b8.keep k9 (by simp <;> omega)
 have e9 := e8.keep k9 (by simp <;> omega)
 repeat refine nx rfl ?_
 refine AA (AW rfl e9 rfl ?_)
 refine Aa (cs := [AM s, .bool i, .int .i64 n]) rfl rfl rfl (by intro u hu; simp at hu; rcases hu with rfl | rfl | rfl <;> rfl) b9 (by simp) (fun w10 p10 => ?_)
 repeat refine nx rfl ?_
 have b10 : Blk w10 w.heap.size 72 [AM s, .bool i, .int .i64 n] := p10.blk
 exact A6 rfl rfl rfl b10.cells ⟨(k18.trans k9 (by simp)).trans p10.keep (by simp <;> omega), ⟨s, i, n⟩, t9, r2.bind (r4.bind (r5.bind (r8.bind (r9.bind (Run.ret _ _))))), q9.keep p10.keep (by simp <;> omega), _, rfl, rfl⟩
theorem requirement_ok (E : Env) (N : Nat) : ItemR reqR aggV E N 110 (body .req) := by
 intro w ts h hN
 have hsl := h.st.slt
 unfold PDo
 refine Aq Tryz.func110 rfl Tryz.ntmps110 (Nat.le_of_ble_eq_true rfl) (by kernel_rfl) ?_
 repeat refine nx rfl ?_
 refine AA ?_
 refine Aw (fun w1 n1 => ?_)
 have b1 : Blk w1 w.heap.size 30 zero8 := n1.blk
 have z1 := n1.size
 have h1 := h.ext n1.keep
 have k1 : Keep [E.s] w w1 := n1.keep.any
 repeat refine nx rfl ?_
 refine AA (Ac (by rfl) (by rfl) ?_)
 refine BE (cs := [AM [], AM [], .int .i64 1, .int .i64 0, AM [], .int .i64 0, .int .i64 0, .slice none 0 0]) rfl rfl (by rfl) (by intro u hu; simp at hu; rcases hu with rfl | rfl | rfl | rfl | rfl | rfl <;> rfl) (fun w3 n3 => ?_)
 have h3 := h1.ext n3.keep
 have b3 := b1.keep n3.keep (by simp)
 have z3 := n3.size
 have e3 := n3.blk
 have k13 := k1.ext n3.keep
 repeat refine nx rfl ?_
 refine AA (AK rfl ?_)
 refine AS (B3 E w3 ts [97, 115, 115, 117, 109, 101] h3.st) rfl ?_
 rintro _ w2 ⟨k2, i, t2, rfl, r2, q2⟩
 have h2 := h3.next k2 q2
 have b2 := b3.keep k2 (by simp <;> omega)
 have e2 := e3.keep k2 (by simp <;> omega)
 have k12 := k13.trans k2 (by simp)
 have z2 := k2.size
 refine BL rfl ?_
 repeat refine nx rfl ?_
 refine CV (α := List Tok × Int) (fun _ => [(0, pt E.s), (2, pt w.heap.size), (3, pt w1.heap.size)])
  (fun x W => Run (if i then .ret 1 else (A9 [103, 117, 97, 114, 97, 110, 116, 101, 101]).bind fun _ => .ret 2 : G Int) t2 (.ok (x.2, x.1)) ∧ PW W E x.1 ∧ Keep [E.s] w W ∧ w3.heap.size ≤ W.heap.size ∧ Blk W w.heap.size 30 zero8 ∧ Blk W w1.heap.size 30 [AM [], AM [], .int .i64 x.2, .int .i64 0, AM [], .int .i64 0, .int .i64 0, .slice none 0 0]) ?_ ?_
 ·cases i with
  | true =>
   repeat first | refine nx rfl ?_ | refine nf rfl ?_
   exact Ar (t2, 1) ⟨rfl, rfl, rfl, trivial⟩ ⟨Run.ret _ _, h2, k12, by omega, b2, e2⟩
  | false =>
   repeat refine nx rfl ?_
   refine AA (AK rfl ?_)
   refine AX (Ci E w2 t2 [103, 117, 97, 114, 97, 110, 116, 101, 101] h2.st) rfl ?_ ?_
   rotate_left
   ·rintro ch wq ⟨kq, lq, rq, rfl⟩
    repeat refine nx rfl ?_
    exact AV ⟨k12.trans kq (by simp), lq, r2.bind (Run.bindE (Run.bindE rq)), rfl⟩
   rintro v w4 ⟨k4, _, t4, r4, q4, rfl⟩
   have e4 := e2.keep k4 (by simp <;> omega)
   have z4 := k4.size
   repeat refine nx rfl ?_
   refine AA (AD rfl ?_)
   refine Ak rfl rfl rfl e4 (by simp) (fun w5 p5 => ?_)
   have z5 := p5.size
   repeat refine nx rfl ?_
   exact Ar (t4, 2) ⟨rfl, rfl, rfl, trivial⟩ ⟨r4.bind (Run.ret _ _), (h2.next k4 q4).keep p5.keep (by simp <;> omega), (k12.trans k4 (by simp)).trans p5.keep (by simp <;> omega), by omega, (b2.keep k4 (by simp <;> omega)).keep p5.keep (by simp <;> omega), p5.blk⟩
 rintro ⟨t4, kd⟩ w4 f4 ⟨r4, h4, k14, z4, b4, e4⟩
 simp only at r4 h4 e4
 repeat refine nx rfl ?_
 refine AA (AK rfl ?_)
 refine AX (pname_ok E w4 t4 h4.st h4.gk) rfl ?_ ?_
 rotate_left
 ·rintro ch wq ⟨kq, lq, rq, rfl⟩
  repeat refine nx rfl ?_
  exact AV ⟨k14.trans kq (by simp), lq, r2.bind (r4.bind (Run.bindE rq)), rfl⟩
 rintro v w5 ⟨k5, s, t5, r5, q5, rfl, hs⟩
 have h5 := h4.next k5 q5
 have b5 := b4.keep k5 (by simp <;> omega)
 have e5 := e4.keep k5 (by simp <;> omega)
 have k15 := k14.trans k5 (by simp)
 have z5 := k5.size
 refine AD rfl ?_
 refine Ak rfl rfl rfl e5 (by simp) (fun w6 p6 => ?_)
 have h6 := h5.keep p6.keep (by simp <;> omega)
 have b6 := b5.keep p6.keep (by simp <;> omega)
 have e6 : Blk w6 w1.heap.size 30 [AM [], AM s, .int .i64 kd, .int .i64 0, AM [], .int .i64 0, .int .i64 0, .slice none 0 0] := p6.blk
 have k16 := k15.trans p6.keep (by simp <;> omega)
 have z6 := p6.size
 repeat refine nx rfl ?_
 refine AA (AK rfl ?_)
 refine AX (Ci E w6 t5 [58] h6.st) rfl ?_ ?_
 rotate_left
 ·rintro ch wq ⟨kq, lq, rq, rfl⟩
  repeat refine nx rfl ?_
  exact AV ⟨k16.trans kq (by simp), lq, r2.bind (r4.bind (r5.bind (Run.bindE rq))), rfl⟩
 rintro v w7 ⟨k7, _, t7, r7, q7, rfl⟩
 have h7 := h6.next k7 q7
 have b7 := b6.keep k7 (by simp <;> omega)
 have e7 := e6.keep k7 (by simp <;> omega)
 have k17 := k16.trans k7 (by simp)
 have z7 := k7.size
 repeat refine nx rfl ?_
 refine AA (AK rfl ?_)
 refine AX ((formulas_ok E t7.length).2.2.2 w7 t7 h7 (Nat.le_refl _)) rfl ?_ ?_
 rotate_left
 ·rintro ch wq ⟨kq, lq, rq, rfl⟩
  repeat refine nx rfl ?_
  exact AV ⟨k17.trans kq (by simp), lq, r2.bind (r4.bind (r5.bind (r7.bind (Run.callE rq)))), rfl⟩
 rintro v w8 ⟨k8, g, t8, r8, q8, f8⟩
 have b8 := b7.keep k8 (by simp <;> omega)
 have e8 := e7.keep k8 (by simp <;> omega)
 have k18 := k17.trans k8 (by simp)
 have z8 := k8.size
 obtain ⟨cs, rfl, hcs, hone⟩ := f8.cells
 obtain ⟨c0, c1, c2, c3, c4, rfl⟩ := CW hcs
 refine AD rfl ?_
 refine Aa (cs := [c0, c1, c2, c3, c4]) rfl rfl rfl hone e8 (by simp) (fun w9 p9 => ?_)
 have b9 := b8.keep p9.keep (by simp <;> omega)
 have e9 : Blk w9 w1.heap.size 30 [AM [], AM s, .int .i64 kd, c0, c1, c2, c3, c4] := p9.blk
 have f9 := f8.keep p9.keep (by intro b hb; simp [fresh] at hb ⊢; omega)
 have z9 := p9.size
 repeat refine nx rfl ?_
 refine AA (AW rfl e9 rfl ?_)
 have hone8 : oneC [AM [], AM s, .int .i64 kd, c0, c1, c2, c3, c4] := by
  intro u hu
  simp only [List.mem_cons, List.not_mem_nil, or_false] at hu
  rcases hu with rfl | rfl | rfl | hu
  ·rfl
  ·rfl
  ·rfl
  ·exact hone u (by simp only [List.mem_cons, List.not_mem_nil, or_false]; exact hu)
 refine Aa (cs := [AM [], AM s, .int .i64 kd, c0, c1, c2, c3, c4]) rfl rfl rfl hone8 b9 (by simp [zero8]) (fun w10 p10 => ?_)
 repeat refine nx rfl ?_
 have b10 : Blk w10 w.heap.size 30 [AM [], AM s, .int .i64 kd, c0, c1, c2, c3, c4] := p10.blk
 have f10 := f9.keep p10.keep (by intro b hb; simp [fresh] at hb ⊢; omega)
 exact A6 rfl rfl rfl b10.cells ⟨(k18.trans p9.keep (by simp <;> omega)).trans p10.keep (by simp <;> omega), ⟨[], s, kd, g⟩, t8, r2.bind (r4.bind (r5.bind (r7.bind (Run.call r8 (Run.ret _ _))))), (q8.keep p9.keep (by simp <;> omega)).keep p10.keep (by simp <;> omega), _, rfl, [c0, c1, c2, c3, c4], rfl, rfl, f10.mono fun b hb => by simp only [fresh] at hb ⊢; omega⟩
theorem line_ok (E : Env) (N : Nat) : ItemR reqR aggV E N 132 (body .line) := by
 intro w ts h hN
 have hsl := h.st.slt
 unfold PDo
 refine Aq Tryz.func132 rfl Tryz.ntmps132 (Nat.le_of_ble_eq_true rfl) (by kernel_rfl) ?_
 repeat refine nx rfl ?_
 refine AA ?_
 refine Aw (fun w1 n1 => ?_)
 have b1 : Blk w1 w.heap.size 30 zero8 := n1.blk
 have z1 := n1.size
 have h1 := h.ext n1.keep
 have k1 : Keep [E.s] w w1 := n1.keep.any
 repeat refine nx rfl ?_
 refine AA (AK rfl ?_)
 refine AX (requirement_ok E N w1 ts h1 hN) rfl ?_ ?_
 rotate_left
 ·rintro ch wq ⟨kq, lq, rq, rfl⟩
  repeat refine nx rfl ?_
  exact AV ⟨k1.trans kq (by simp), lq, Run.callE rq, rfl⟩
 rintro v w2 ⟨k2, r, t2, r2, q2, c, rfl, f2⟩
 have h2 := h1.next k2 q2
 have b2 := b1.keep k2 (by simp <;> omega)
 have k12 := k1.trans k2 (by simp)
 have z2 := k2.size
 have hcl : c.length = 8 := reqR.len f2
 have hco := reqR.one f2
 refine BE (cs := c) rfl hcl (by rfl) hco (fun w3 n3 => ?_)
 have h3 := h2.ext n3.keep
 have b3 := b2.keep n3.keep (by simp)
 have f3 := reqR.ext f2 n3.keep
 have z3 := n3.size
 have e3 := n3.blk
 have k13 := k12.ext n3.keep
 repeat refine nx rfl ?_
 refine AA (AK rfl ?_)
 refine AX (Ci E w3 t2 [59] h3.st) rfl ?_ ?_
 rotate_left
 ·rintro ch wq ⟨kq, lq, rq, rfl⟩
  repeat refine nx rfl ?_
  exact AV ⟨k13.trans kq (by simp), lq, Run.call r2 (Run.bindE rq), rfl⟩
 rintro v w4 ⟨k4, _, t4, r4, q4, rfl⟩
 have b4 := b3.keep k4 (by simp <;> omega)
 have e4 := e3.keep k4 (by simp <;> omega)
 have f4 := reqR.keep f3 k4 (by intro b hb; simp [fresh] at hb ⊢; omega)
 have z4 := k4.size
 repeat refine nx rfl ?_
 refine AA (AW rfl e4 hcl ?_)
 refine Aa (cs := c) rfl rfl hcl hco b4 (by simp [zero8]) (fun w5 p5 => ?_)
 repeat refine nx rfl ?_
 have b5 : Blk w5 w.heap.size 30 c := by
  have := p5.blk
  rw [Bu zero8 c hcl] at this
  exact this
 have f5 := reqR.keep f4 p5.keep (by intro b hb; simp [fresh] at hb ⊢; omega)
 exact A6 rfl rfl hcl b5.cells ⟨(k13.trans k4 (by simp)).trans p5.keep (by simp <;> omega), r, t4, Run.call r2 (r4.bind (Run.ret _ _)), q4.keep p5.keep (by simp <;> omega), c, rfl, reqR.mono f5 fun b hb => by simp only [fresh] at hb ⊢; omega⟩
end Go.Proofs.YtfcgdbmoncnibaaGreatDoor
namespace Go.Proofs.YtfcgdbmoncnibaaGreatDoor
open Go.RowKit
set_option linter.unusedVariables false
variable {mk : Prop} [MK mk]
theorem run_sees2 (s t : List UInt8) (ts : List Tok) : Run (sees2 s t) ts (.ok (B6 s (ts.head?.map bare) || B6 t (ts.head?.map bare), ts)) := Run.look (Run.ret _ _)
theorem opened_ok (E : Env) (w : World) : MoreOk E w 97 [pt E.s] [] (sees2 [112, 97, 114, 116] [112, 97, 114, 116]) := by
 intro w ts _ h
 show Fn Tryz.prog _ [pt E.s] _ _
 refine Ad Tryz.func97 rfl Tryz.ntmps97 (Nat.le_of_ble_eq_true rfl) (by kernel_rfl) ?_
 repeat refine nx rfl ?_
 refine AA (AB (AC rfl ?_))
 repeat refine nx rfl ?_
 refine AA (AK rfl ?_)
 refine AS (sees_ok E w ts [112, 97, 114, 116] h.st) rfl ?_
 rintro v w' ⟨rfl, rfl⟩
 refine AB (AC rfl ?_)
 repeat refine nx rfl ?_
 refine AP rfl ⟨_, rfl, ?_, rfl⟩
 have := run_sees2 [112, 97, 114, 116] [112, 97, 114, 116] ts
 rwa [Bool.or_self] at this
theorem required_ok (E : Env) (w : World) : MoreOk E w 131 [pt E.s] [] (sees2 [97, 115, 115, 117, 109, 101] [103, 117, 97, 114, 97, 110, 116, 101, 101]) := by
 intro w ts _ h
 show Fn Tryz.prog _ [pt E.s] _ _
 refine Ad Tryz.func131 rfl Tryz.ntmps131 (Nat.le_of_ble_eq_true rfl) (by kernel_rfl) ?_
 repeat refine nx rfl ?_
 refine AA (AB (AC rfl ?_))
 repeat refine nx rfl ?_
 refine AA (AK rfl ?_)
 refine AS (sees_ok E w ts [97, 115, 115, 117, 109, 101] h.st) rfl ?_
 rintro v w' ⟨rfl, rfl⟩
 have hr := run_sees2 [97, 115, 115, 117, 109, 101] [103, 117, 97, 114, 97, 110, 116, 101, 101] ts
 cases hb : B6 [97, 115, 115, 117, 109, 101] (ts.head?.map bare) with
 | true =>
  refine AC rfl (AJ rfl ?_)
  refine AJ rfl (AO rfl (AC rfl (AB (AC rfl ?_))))
  repeat refine nx rfl ?_
  refine AP rfl ⟨_, rfl, ?_, rfl⟩
  rw [hb] at hr; exact hr
 | false =>
  refine AC rfl (AE rfl (AK rfl ?_))
  refine AE rfl (AS (sees_ok E w' ts [103, 117, 97, 114, 97, 110, 116, 101, 101] h.st) rfl ?_)
  rintro v w'' ⟨rfl, rfl⟩
  refine AQ rfl (AC rfl (AB (AC rfl ?_)))
  repeat refine nx rfl ?_
  refine AP rfl ⟨_, rfl, ?_, rfl⟩
  rw [hb] at hr; exact hr
theorem declared_ok (E : Env) (w0 : World) (bx : Nat) (hx : Blk w0 bx 89 [pt E.s]) (hne : bx ≠ E.s) : MoreOk E w0 92 [] [pt bx] (sees2 [105, 110, 112, 117, 116] [111, 117, 116, 112, 117, 116]) := by
 intro w ts hk h
 show Fn Tryz.prog _ [pt bx] _ _
 have hb := hx.keep hk (by simpa using hne)
 refine Ad Tryz.func92 rfl Tryz.ntmps92 (Nat.le_of_ble_eq_true rfl) (by kernel_rfl) ?_
 repeat refine nx rfl ?_
 refine AA (AB (AC rfl ?_))
 repeat refine nx rfl ?_
 refine AA (AG rfl (Blk.cell (by assumption) (by rfl)) ?_)
 refine AS (sees_ok E w ts [105, 110, 112, 117, 116] h.st) rfl ?_
 rintro v w' ⟨rfl, rfl⟩
 have hr := run_sees2 [105, 110, 112, 117, 116] [111, 117, 116, 112, 117, 116] ts
 cases hc : B6 [105, 110, 112, 117, 116] (ts.head?.map bare) with
 | true =>
  refine AC rfl (AJ rfl ?_)
  refine AJ rfl (AO rfl (AC rfl (AB (AC rfl ?_))))
  repeat refine nx rfl ?_
  refine AP rfl ⟨_, rfl, ?_, rfl⟩
  rw [hc] at hr; exact hr
 | false =>
  refine AC rfl (AE rfl (AG rfl (Blk.cell (by assumption) (by rfl)) ?_))
  refine AE rfl (AS (sees_ok E w' ts [111, 117, 116, 112, 117, 116] h.st) rfl ?_)
  rintro v w'' ⟨rfl, rfl⟩
  refine AQ rfl (AC rfl (AB (AC rfl ?_)))
  repeat refine nx rfl ?_
  refine AP rfl ⟨_, rfl, ?_, rfl⟩
  rw [hc] at hr; exact hr
theorem expect_inv {t : List UInt8} {ts ts' : List Tok} {u : Unit} (h : Run (A9 t) ts (.ok (u, ts'))) : ts'.length + 1 = ts.length := by
 cases hs : B6 t (ts.head?.map bare) with
 | true =>
  have e := h.det (run_expect_t hs)
  cases e
  cases ts with
  | nil => simp [B6] at hs
  | cons x l => rfl
 | false => have e := h.det (run_expect_f hs); cases e
theorem name_inv {ts ts' : List Tok} {s : List UInt8} (h : Run nameG ts (.ok (s, ts'))) : ts'.length + 1 = ts.length := by
 cases ts with
 | nil => cases h.det (Run.look (Run.fail _))
 | cons x l =>
  cases hb : (decide (x.kind = 1) && BS x.text) with
  | true =>
   have hr : Run nameG (x :: l) (.ok (x.text, l)) := by
    refine Run.look ?_
    show Run (if (decide (x.kind = 1) && BS x.text) = true then _ else _) _ _
    rw [if_pos hb]; exact Run.next (Run.ret _ _)
   cases h.det hr; rfl
  | false =>
   have hr : Run nameG (x :: l) (.error (x :: l)) := by
    refine Run.look ?_
    show Run (if (decide (x.kind = 1) && BS x.text) = true then _ else _) _ _
    rw [hb]; exact Run.fail _
   cases h.det hr
theorem Run.le {α : Type} {p : G α} {l l' : List Tok} {a : α} (h : Run p l (.ok (a, l'))) : l'.length ≤ l.length := (show l' <:+ l from h.suffix).length_le
theorem CY {α β : Type} {p : G α} {q : α → G β} {l l' : List Tok} {b : β} (h : Run (p.bind q) l (.ok (b, l'))) : ∃ a l1, Run p l (.ok (a, l1)) ∧ Run (q a) l1 (.ok (b, l')) := by
 rcases h.bind_inv with ⟨a, l1, h1, h2⟩ | ⟨e, _, h2⟩
 ·exact ⟨a, l1, h1, h2⟩
 ·cases h2
theorem call_ok {α : Type} {nt : NT} {k : nt.T → G α} {l l' : List Tok} {b : α} (h : Run (.call nt k) l (.ok (b, l'))) : ∃ a l1, RunN nt l (.ok (a, l1)) ∧ Run (k a) l1 (.ok (b, l')) := by
 rcases h.call_inv with ⟨a, l1, h1, h2⟩ | ⟨e, _, h2⟩
 ·exact ⟨a, l1, h1, h2⟩
 ·cases h2
theorem signal_less {t t2 : List Tok} {a : Sgn} (h : Run (body .signal) t (.ok (a, t2))) : t2.length < t.length := by
 obtain ⟨i, t1, r1, h⟩ := CY h
 obtain ⟨_, t3, r3, h⟩ := CY h
 obtain ⟨s, t4, r4, h⟩ := CY h
 have := r1.le; have := r3.le; have := name_inv r4; have := h.le
 omega
theorem req_less {t t2 : List Tok} {a : Rqm} (h : Run (body .req) t (.ok (a, t2))) : t2.length < t.length := by
 obtain ⟨i, t1, r1, h⟩ := CY h
 obtain ⟨_, t3, r3, h⟩ := CY h
 obtain ⟨s, t4, r4, h⟩ := CY h
 have := r1.le; have := r3.le; have := name_inv r4; have := h.le
 omega
theorem line_less {t t2 : List Tok} {a : Rqm} (h : Run (body .line) t (.ok (a, t2))) : t2.length < t.length := by
 obtain ⟨r, t1, r1, h⟩ := call_ok h
 have := req_less r1; have := h.le
 omega
theorem part_less {t t2 : List Tok} {a : List Rqm} (h : Run (body .part) t (.ok (a, t2))) : t2.length < t.length := by
 obtain ⟨_, t1, r1, h⟩ := CY h
 have := expect_inv r1; have := h.le
 omega
theorem whileP_sig : WhileP (sees2 [105, 110, 112, 117, 116] [111, 117, 116, 112, 117, 116]) (body .signal) (body .sigs) where
 done h := h.bind (Run.ret _ _)
 more h h1 h2 := h.bind (Run.call h1 (Run.call h2 (Run.ret _ _)))
 err1 h h1 := h.bind (Run.callE h1)
 err2 h h1 h2 := h.bind (Run.call h1 (Run.callE h2))
 less _ h := signal_less h
theorem whileP_lines : WhileP (sees2 [97, 115, 115, 117, 109, 101] [103, 117, 97, 114, 97, 110, 116, 101, 101]) (body .line) (body .lines) where
 done h := h.bind (Run.ret _ _)
 more h h1 h2 := h.bind (Run.call h1 (Run.call h2 (Run.ret _ _)))
 err1 h h1 := h.bind (Run.callE h1)
 err2 h h1 h2 := h.bind (Run.call h1 (Run.callE h2))
 less _ h := line_less h
theorem whileP_parts : WhileP (sees2 [112, 97, 114, 116] [112, 97, 114, 116]) (body .part) (body .parts) where
 done h := h.bind (Run.ret _ _)
 more h h1 h2 := h.bind (Run.call h1 (Run.call h2 (Run.ret _ _)))
 err1 h h1 := h.bind (Run.callE h1)
 err2 h h1 h2 := h.bind (Run.call h1 (Run.callE h2))
 less _ h := part_less h
theorem own_blkN {w : World} {B e n size : Nat} {a : Option Addr} {cap : Nat} {xs : List Value} (h : w.ownsRow B e size (.slice a n cap) n xs) (hn : 0 < n) :
  ∃ g L, a = some ⟨g, 0, none⟩ ∧ B ≤ g ∧ Blk w g e L ∧ n * size ≤ L.length ∧ ∀ w' i u, Put w w' g e (L.set i u) → w'.ownsRow B e size (.slice a n cap) n (xs.set i u) := by
 obtain ⟨hl, hv⟩ := h
 rcases hv with ⟨_, rfl⟩ | ⟨g, cap', cur, hv, hB, hg, h1, h2, h3, h4⟩
 ·omega
 ·cases hv
  refine ⟨g, cur.toList, rfl, hB, by simpa [Blk] using hg, ?_, fun w' i u hp => ⟨by simpa using hl, .inr ⟨g, cap, (cur.toList.set i u).toArray, rfl, hB, hp.blk, h1, h2, by simpa using h3, ?_⟩⟩⟩
  ·have := congrArg List.length h4
   simp at this
   rw [hl] at this
   simp; omega
  ·show ((cur.toList.set i u).toArray.toList.take (n * size)) = _
   rw [← h4, List.take_set]
theorem flatten_set (n : Nat) (u : Value) : ∀ (L : List (List Value)) (k j : Nat) (c : List Value), (∀ c ∈ L, c.length = n) → L[k]? = some c → j < n → L.flatten.set (k * n + j) u = (L.set k (c.set j u)).flatten
 | [], k, j, c, _, h, _ => by simp at h
 | d :: L, 0, j, c, h5, h, hj => by
  simp at h; subst h
  have := h5 d (by simp)
  rw [Nat.zero_mul, Nat.zero_add, List.flatten_cons, List.set_append_left _ _ (by omega)]
  rfl
 | d :: L, k + 1, j, c, h5, h, hj => by
  have hd := h5 d (by simp)
  rw [List.flatten_cons, List.set_append_right _ _ (by rw [hd, Nat.succ_mul]; omega), hd, show (k + 1) * n + j - n = k * n + j by rw [Nat.succ_mul]; omega]
  rw [flatten_set n u L k j c (fun c hc => h5 c (by simp [hc])) (by simpa using h) hj]
  rfl
def inPart (s : List UInt8) (r : Rqm) : Rqm := ⟨s, r.name, r.kind, r.formula⟩
def upTo {α : Type} (f : α → α) (k : Nat) (l : List α) : List α := (l.take k).map f ++ l.drop k
theorem upTo_get {α : Type} (f : α → α) {k : Nat} {l : List α} (hk : k ≤ l.length) (i : Nat) : (upTo f k l)[i]? = if i < k then (l[i]?).map f else l[i]? := by
 unfold upTo
 split
 ·rename_i h
  rw [List.getElem?_append_left (by simp; omega), List.getElem?_map, List.getElem?_take, if_pos h]
 ·rename_i h
  rw [List.getElem?_append_right (by simp; omega), List.getElem?_drop]
  congr 1
  simp; omega
theorem upTo_len {α : Type} (f : α → α) (k : Nat) (l : List α) (hk : k ≤ l.length) : (upTo f k l).length = l.length := by simp [upTo]; omega
theorem part_ok (E : Env) (N : Nat) : ItemR reqsR oneV E N 98 (body .part) := by
 intro w ts h hN
 have hsl := h.st.slt
 unfold PDo
 refine Aq Tryz.func98 rfl Tryz.ntmps98 (Nat.le_of_ble_eq_true rfl) (by kernel_rfl) ?_
 repeat refine nx rfl ?_
 refine AA (AB (Ah rfl ?_))
 repeat refine nx rfl ?_
 refine AA (AK rfl ?_)
 refine AX (Ci E w ts [112, 97, 114, 116] h.st) rfl ?_ ?_
 rotate_left
 ·rintro ch wq ⟨kq, lq, rq, rfl⟩
  repeat refine nx rfl ?_
  exact AV ⟨(Keep.refl [E.s] w).trans kq (by simp), lq, Run.bindE rq, rfl⟩
 rintro v w1 ⟨k1, _, t1, r1, q1, rfl⟩
 have h1 := h.next k1 q1
 repeat refine nx rfl ?_
 refine AA (AK rfl ?_)
 refine AX (pname_ok E w1 t1 h1.st h1.gk) rfl ?_ ?_
 rotate_left
 ·rintro ch wq ⟨kq, lq, rq, rfl⟩
  repeat refine nx rfl ?_
  exact AV ⟨k1.trans kq (by simp), lq, r1.bind (Run.bindE rq), rfl⟩
 rintro v w2 ⟨k2, s, t2, r2, q2, rfl, hs⟩
 have h2 := h1.next k2 q2
 have k12 := k1.trans k2 (by simp)
 refine AB (AY rfl ?_)
 repeat refine nx rfl ?_
 refine AA (AK rfl ?_)
 refine AX (Ci E w2 t2 [123] h2.st) rfl ?_ ?_
 rotate_left
 ·rintro ch wq ⟨kq, lq, rq, rfl⟩
  repeat refine nx rfl ?_
  exact AV ⟨k12.trans kq (by simp), lq, r1.bind (r2.bind (Run.bindE rq)), rfl⟩
 rintro v w3 ⟨k3, _, t3, r3, q3, rfl⟩
 have h3 := h2.next k3 q3
 have k13 := k12.trans k3 (by simp)
 repeat refine nx rfl ?_
 refine AA (AK rfl (BC rfl rfl (AK rfl (BC rfl rfl ?_))))
 refine AX (whileReq_ok E t3.length _ _ [pt E.s] [] _ _ _ whileP_lines w3 t3 (required_ok E w3) (line_ok E _) h3 (Nat.le_refl _)) rfl ?_ ?_
 rotate_left
 ·rintro ch wq ⟨kq, lq, rq, rfl⟩
  repeat refine nx rfl ?_
  exact AV ⟨k13.trans kq (by simp), lq, r1.bind (r2.bind (r3.bind (Run.callE rq))), rfl⟩
 rintro v w4 ⟨k4, l, t4, r4, q4, L, o4, F4⟩
 have h4 := h3.next k4 q4
 have k14 := k13.trans k4 (by simp)
 obtain ⟨a, c, rfl⟩ : ∃ a c, v = .slice a l.length c := by
  rcases o4.2 with ⟨rfl, h0⟩ | ⟨g, cap, cur, rfl, _⟩
  ·exact ⟨none, 0, by rw [h0]⟩
  ·exact ⟨_, _, rfl⟩
 have hlm : l.length ≤ 9223372036854775807 := by
  obtain ⟨_, _, hv, g1, g2, _⟩ := BF (ok := BH) o4 fun _ _ => trivial
  cases hv; omega
 refine AB (Ah rfl ?_)
 repeat refine nx rfl ?_
 refine AA (AK rfl ?_)
 refine AX (Ci E w4 t4 [125] h4.st) rfl ?_ ?_
 rotate_left
 ·rintro ch wq ⟨kq, lq, rq, rfl⟩
  repeat refine nx rfl ?_
  exact AV ⟨k14.trans kq (by simp), lq, r1.bind (r2.bind (r3.bind (Run.call r4 (Run.bindE rq)))), rfl⟩
 rintro v w5 ⟨k5, _, t5, r5, q5, rfl⟩
 have h5 := h4.next k5 q5
 have k15 := k14.trans k5 (by simp)
 have z13 := k13.size
 have hsg : ∀ g, (Value.slice a l.length c).ownBlock = some g → w3.heap.size ≤ g ∧ g < w4.heap.size := fun g hg => Bl o4 hg
 have o5 := A5 o4 k5 (fun g hg => by have := hsg g hg; simp; omega)
 have F5 := F4.keep k5 (fun b hb => by have := hb.1; simp [fresh] at this ⊢; omega)
 repeat refine nx rfl ?_
 refine AA (Ah rfl (As rfl (AH rfl ?_)))
 repeat refine nx rfl ?_
 refine BY (α := Nat) (fun k => [(3, AM s), (4, .slice a l.length c), (20, .int .i64 (l.length : Int)), (21, .int .i64 (k : Int))])
  (fun k W => k ≤ l.length ∧ Keep [E.s] w W ∧ PSt W E t5 ∧ ∃ L', W.ownsRow w3.heap.size 30 8 (.slice a l.length c) l.length L'.flatten ∧ RsAt reqR (fun b => fresh w3 b ∧ (Value.slice a l.length c).ownBlock ≠ some b) W L' (upTo (inPart s) k l)) (fun k => l.length - k) 0 ⟨rfl, rfl, rfl, rfl, trivial⟩
  ⟨by omega, k15, q5, L, o5, by simpa [upTo] using F5⟩ ?_
 rintro k w6 f6 ⟨hk, k6, q6, L', o6, F6⟩
 repeat refine nx rfl ?_
 by_cases hlt : k < l.length
 ·obtain ⟨g, Lc, rfl, hB, hb, hLc, hput⟩ := own_blkN o6 (by omega)
  have hkl : k * 8 + 8 ≤ l.length * 8 := by omega
  have hul := upTo_len (inPart s) k l hk
  obtain ⟨cc, hcc⟩ : ∃ cc, L'[k]? = some cc := ⟨_, List.getElem?_eq_getElem (by rw [F6.1, hul]; exact hlt)⟩
  obtain ⟨r, hr⟩ : ∃ r, l[k]? = some r := ⟨_, List.getElem?_eq_getElem hlt⟩
  have hr' : (upTo (inPart s) k l)[k]? = some r := by rw [upTo_get _ hk, if_neg (by omega), hr]
  have hfit := F6.2 k cc r hcc hr'
  refine AA (BM rfl rfl (by omega) ?_)
  repeat refine nx rfl ?_
  refine AA (AH rfl (AB (AH rfl ?_)))
  repeat refine nx rfl ?_
  refine AA (Ah rfl (AH rfl (AY rfl (CH rfl rfl rfl (by omega) (AD rfl ?_)))))
  refine Ak (v := AM s) rfl rfl rfl hb (by omega) (fun w7 p7 => ?_)
  repeat refine nx rfl ?_
  (refine AA (BR rfl rfl (by first | exact Al (by omega) (by omega) | exact At (by omega) (by omega) | exact Am (by omega) (by omega)) ?_) <;> refine AH rfl ?_)
  repeat refine nx rfl ?_
  have e0 : 0 + k * 8 + 0 = k * 8 + 0 := by omega
  rw [e0] at p7
  have o7 := hput w7 _ _ p7
  have hfs := flatten_set 8 (AM s) L' k 0 cc F6.len hcc (by omega)
  rw [hfs] at o7
  have z3 := k3.size
  refine ⟨k + 1, ⟨rfl, ⟨rfl, rfl, rfl, ?_, trivial⟩, ⟨by omega, k6.trans p7.keep (fun x hx hlt => by simp at hx; omega), q6.keep p7.keep (fun x hx => by simp at hx; omega), _, o7, ?_⟩⟩, by omega⟩
  ·show Value.int .i64 ((k : Int) + 1) = _
   rw [Int.natCast_add]; rfl
  ·refine ⟨by rw [List.length_set, F6.1, upTo_len _ _ _ hk, upTo_len _ _ _ (by omega)], fun i d x hd hx => ?_⟩
   have hkeep : ∀ b, (fresh w3 b ∧ (Value.slice (some ⟨g, 0, none⟩) l.length c).ownBlock ≠ some b) → b ∉ [g] := fun b hb hx => hb.2 (by simp at hx; subst hx; rfl)
   rw [upTo_get _ (by omega)] at hx
   rw [List.getElem?_set] at hd
   by_cases hik : k = i
   ·subst hik
    rw [if_pos rfl, if_pos (by rw [F6.1, hul]; exact hlt)] at hd
    cases hd
    rw [if_pos (by omega), hr] at hx
    cases hx
    obtain ⟨d, rfl, hd5, hdf⟩ := hfit
    exact ⟨d, rfl, hd5, hdf.keep p7.keep hkeep⟩
   ·rw [if_neg hik] at hd
    have hx' : (upTo (inPart s) k l)[i]? = some x := by
     rw [upTo_get _ hk]
     by_cases h1 : i < k
     ·rw [if_pos h1]; rwa [if_pos (by omega)] at hx
     ·rw [if_neg h1]; rwa [if_neg (by omega)] at hx
    exact reqR.keep (F6.2 i d x hd hx') p7.keep hkeep
 ·obtain rfl : k = l.length := by omega
  refine AA (BN rfl rfl (by omega) ?_)
  repeat first | refine nx rfl ?_ | refine nf rfl ?_
  refine AA (Ah rfl (AB (Ah rfl ?_)))
  repeat refine nx rfl ?_
  have hm : upTo (inPart s) l.length l = l.map (inPart s) := by simp [upTo]
  rw [hm] at F6
  have S6 := BF (ok := fresh w) o6 (fun g hg => by have := hsg g hg; simp only [fresh]; omega)
  have hml : (l.map (inPart s)).length = l.length := by simp
  refine AP rfl ⟨k6, l.map (inPart s), t5, r1.bind (r2.bind (r3.bind (Run.call r4 (r5.bind (Run.ret _ _))))), q6, [.slice a l.length c], rfl, _, rfl, a, c, L', by rw [hml], by rw [hml]; exact S6, F6.mono fun b hb => by have := hb.1; simp only [fresh] at this ⊢; omega⟩
end Go.Proofs.YtfcgdbmoncnibaaGreatDoor
namespace Go.Proofs.YtfcgdbmoncnibaaGreatDoor
open Go.RowKit
set_option linter.unusedVariables false
variable {mk : Prop} [MK mk]
theorem Bj {l : List Value} (h : l.all (fun v => v.oneCell') = true) : oneC l := fun u hu => List.all_eq_true.1 h u hu
def spcR : Rp Spc where
 fits ok w c x := ∃ sv rv, c = [sv, rv] ∧ SlAt sgnR ok w sv x.sigs ∧ SlAt reqR ok w rv x.reqs
 size := 2
 len h := by obtain ⟨_, _, rfl, _⟩ := h; rfl
 one h := by
  obtain ⟨_, _, rfl, ⟨_, _, _, rfl, _⟩, ⟨_, _, _, rfl, _⟩⟩ := h
  intro u hu; simp at hu; rcases hu with rfl | rfl <;> rfl
 keep h k hX := by
  obtain ⟨sv, rv, e, ⟨a, c, L, e1, h1, h2⟩, ⟨b, d, M, e2, h3, h4⟩⟩ := h
  exact ⟨sv, rv, e, ⟨a, c, L, e1, h1.keep k hX, h2.keep k hX⟩, ⟨b, d, M, e2, h3.keep k hX, h4.keep k hX⟩⟩
 lt h := by
  obtain ⟨sv, rv, e, ⟨a, c, L, e1, h1, h2⟩, ⟨b, d, M, e2, h3, h4⟩⟩ := h
  exact ⟨sv, rv, e, ⟨a, c, L, e1, Sl_ltR (by show 0 < 3; decide) h1 h2, h2.lt⟩, ⟨b, d, M, e2, Sl_ltR (by show 0 < 8; decide) h3 h4, h4.lt⟩⟩
 mono h hk := by
  obtain ⟨sv, rv, e, ⟨a, c, L, e1, h1, h2⟩, ⟨b, d, M, e2, h3, h4⟩⟩ := h
  exact ⟨sv, rv, e, ⟨a, c, L, e1, h1.mono hk, h2.mono hk⟩, ⟨b, d, M, e2, h3.mono hk, h4.mono hk⟩⟩
def edtR : Rp Edt where
 fits ok w c x := ∃ d, c = .int .i64 x.kind :: d ∧ reqR.fits ok w d x.req
 size := 9
 len h := by obtain ⟨d, rfl, h⟩ := h; have := reqR.len h; simp [this]; rfl
 one h := by
  obtain ⟨d, rfl, h⟩ := h
  have := reqR.one h
  intro u hu
  rcases List.mem_cons.1 hu with rfl | hu
  ·rfl
  ·exact this u hu
 keep h k hX := by obtain ⟨d, e, h⟩ := h; exact ⟨d, e, reqR.keep h k hX⟩
 lt h := by obtain ⟨d, e, h⟩ := h; exact ⟨d, e, reqR.lt h⟩
 mono h hk := by obtain ⟨d, e, h⟩ := h; exact ⟨d, e, reqR.mono h hk⟩
def fmlR : Rp Fml where
 fits ok w c x := c.length = 5 ∧ FAt ok w (.agg c.toArray) x
 size := 5
 len h := h.1
 one h := by
  obtain ⟨c', e, _, h1⟩ := h.2.cells
  simp only [Value.agg.injEq] at e
  have e2 := congrArg Array.toList e
  simp only [List.toList_toArray] at e2
  exact e2 ▸ h1
 keep h k hX := ⟨h.1, h.2.keep k hX⟩
 lt h := ⟨h.1, h.2.lt⟩
 mono h hk := ⟨h.1, h.2.mono hk⟩
theorem sees2_inv {s t : List UInt8} {ts ts' : List Tok} {b : Bool} (h : Run (sees2 s t) ts (.ok (b, ts'))) : ts' = ts := by
 cases h.det (run_sees2 s t ts); rfl
theorem lines_cnt : ∀ (n : Nat) (t t' : List Tok) (l : List Rqm), t.length ≤ n → Run (body .lines) t (.ok (l, t')) → l.length + t'.length ≤ t.length := by
 intro n
 induction n with
 | zero =>
  intro t t' l hn h
  obtain ⟨b, t1, r1, h⟩ := CY h
  have e := sees2_inv r1
  subst e
  cases b with
  | true =>
   obtain ⟨r, t2, r2, h⟩ := call_ok h
   have := line_less r2; omega
  | false => cases h.det (Run.ret _ _); simp
 | succ n ih =>
  intro t t' l hn h
  obtain ⟨b, t1, r1, h⟩ := CY h
  have e := sees2_inv r1
  subst e
  cases b with
  | true =>
   obtain ⟨r, t2, r2, h⟩ := call_ok h
   obtain ⟨m, t3, r3, h⟩ := call_ok h
   have h2 := line_less r2
   have h3 := ih t2 t3 m (by omega) r3
   cases h.det (Run.ret _ _)
   simp; omega
  | false => cases h.det (Run.ret _ _); simp
theorem part_cnt {t t' : List Tok} {l : List Rqm} (h : Run (body .part) t (.ok (l, t'))) : l.length + t'.length < t.length := by
 obtain ⟨_, t1, r1, h⟩ := CY h
 obtain ⟨_, t2, r2, h⟩ := CY h
 obtain ⟨_, t3, r3, h⟩ := CY h
 obtain ⟨m, t4, r4, h⟩ := call_ok h
 obtain ⟨_, t5, r5, h⟩ := CY h
 cases h.det (Run.ret _ _)
 have := expect_inv r1; have := r2.le; have := r3.le; have := lines_cnt _ _ _ _ (Nat.le_refl _) r4; have := r5.le
 simp; omega
theorem parts_cnt : ∀ (n : Nat) (t t' : List Tok) (l : List (List Rqm)), t.length ≤ n → Run (body .parts) t (.ok (l, t')) → l.flatten.length + t'.length ≤ t.length := by
 intro n
 induction n with
 | zero =>
  intro t t' l hn h
  obtain ⟨b, t1, r1, h⟩ := CY h
  have e := sees2_inv r1
  subst e
  cases b with
  | true =>
   obtain ⟨r, t2, r2, h⟩ := call_ok h
   have := part_less r2; omega
  | false => cases h.det (Run.ret _ _); simp
 | succ n ih =>
  intro t t' l hn h
  obtain ⟨b, t1, r1, h⟩ := CY h
  have e := sees2_inv r1
  subst e
  cases b with
  | true =>
   obtain ⟨r, t2, r2, h⟩ := call_ok h
   obtain ⟨m, t3, r3, h⟩ := call_ok h
   have h2 := part_cnt r2
   have h3 := ih t2 t3 m (by omega) r3
   cases h.det (Run.ret _ _)
   simp only [List.flatten_cons, List.length_append]; omega
  | false => cases h.det (Run.ret _ _); simp
theorem DD (n : Nat) : ∀ (L : List (List Value)) (k j : Nat) (c : List Value) (v : Value), (∀ c ∈ L, c.length = n) → L[k]? = some c → c[j]? = some v → L.flatten[k * n + j]? = some v
 | [], k, j, c, v, _, h, _ => by simp at h
 | d :: L, 0, j, c, v, h5, h, hv => by
  simp at h; subst h
  rw [List.flatten_cons, Nat.zero_mul, Nat.zero_add, List.getElem?_append_left (List.getElem?_eq_some_iff.1 hv).1]; exact hv
 | d :: L, k + 1, j, c, v, h5, h, hv => by
  have hd := h5 d (by simp)
  rw [List.flatten_cons, List.getElem?_append_right (by rw [hd, Nat.succ_mul]; omega), hd, show (k + 1) * n + j - n = k * n + j by rw [Nat.succ_mul]; omega]
  exact DD n L k j c v (fun c hc => h5 c (by simp [hc])) (by simpa using h) hv
theorem spec_ok (E : Env) (N : Nat) : ItemR spcR aggV E N 57 (body .spec) := by
 intro w ts h hN
 have hsl := h.st.slt
 unfold PDo
 refine Aq Tryz.func57 rfl Tryz.ntmps57 (Nat.le_of_ble_eq_true rfl) (by kernel_rfl) ?_
 repeat refine nx rfl ?_
 (refine AA ?_; refine Bs (L := [pt E.s]) rfl (fun w1 n1 => ?_))
 refine Aw (fun w2 n2 => ?_)
 have z1 := n1.size
 have z2 := n2.size
 have x2 : Blk w2 w.heap.size 89 [pt E.s] := n1.blk.keep n2.keep (by simp)
 have b2 : Blk w2 w1.heap.size 28 [.slice none 0 0, .slice none 0 0] := n2.blk
 have h2 := (h.ext n1.keep).ext n2.keep
 have k2 : Keep [E.s] w w2 := (n1.keep.trans n2.keep).any
 repeat refine nx rfl ?_
 refine AA (BC rfl rfl (AB (Cl rfl ?_)))
 repeat refine nx rfl ?_
 (refine AA (Cl rfl (AG rfl (Blk.cell (by assumption) (by rfl)) ?_)) <;> refine BC rfl rfl ?_)
 refine AX (whileSgn_ok E ts.length _ _ [] [pt w.heap.size] _ _ _ whileP_sig w2 ts (declared_ok E w2 _ x2 (by omega)) (signal_ok E _) h2 (Nat.le_refl _)) rfl ?_ ?_
 rotate_left
 ·rintro ch wq ⟨kq, lq, rq, rfl⟩
  repeat refine nx rfl ?_
  exact AV ⟨k2.trans kq (by simp), lq, Run.callE rq, rfl⟩
 rintro sv w3 ⟨k3, l, t3, r3, q3, L, o3, F3⟩
 have h3 := h2.next k3 q3
 have k13 := k2.trans k3 (by simp)
 have z3 := k3.size
 have x3 := x2.keep k3 (by simp <;> omega)
 have b3 := b2.keep k3 (by simp <;> omega)
 have S3 := BF (ok := fun b => w2.heap.size ≤ b ∧ b < w3.heap.size) o3 (fun g hg => by have := Bl o3 hg; omega)
 obtain ⟨sa, sc, rfl, _⟩ := id S3
 refine Ac (by rfl) (by rfl) ?_
 refine BE (cs := [.slice sa l.length sc, .slice none 0 0]) rfl rfl (by rfl) (by intro u hu; simp at hu; rcases hu with rfl | rfl <;> rfl) (fun w4 n4 => ?_)
 have h4 := h3.ext n4.keep
 have k14 := k13.ext n4.keep
 have z4 := n4.size
 have x4 := x3.keep n4.keep (by simp)
 have b4 := b3.keep n4.keep (by simp)
 have e4 := n4.blk
 have S4 := S3.ext n4.keep
 have F4 := F3.ext n4.keep
 repeat refine nx rfl ?_
 (refine AA (AG rfl (Blk.cell (by assumption) (by rfl)) ?_) <;> refine BC rfl rfl (AG rfl (Blk.cell (by assumption) (by rfl)) ?_) <;> refine BC rfl rfl ?_)
 refine AX (whileReqs_ok E t3.length _ _ [pt E.s] [] _ _ _ whileP_parts w4 t3 (opened_ok E w4) (part_ok E _) h4 (Nat.le_refl _)) rfl ?_ ?_
 rotate_left
 ·rintro ch wq ⟨kq, lq, rq, rfl⟩
  repeat refine nx rfl ?_
  exact AV ⟨k14.trans kq (by simp), lq, Run.call r3 (Run.callE rq), rfl⟩
 rintro pv w5 ⟨k5, m, t5, r5, q5, M, o5, F5⟩
 have h5 := h4.next k5 q5
 have k15 := k14.trans k5 (by simp)
 have z5 := k5.size
 have b5 := b4.keep k5 (by simp <;> omega)
 have e5 := e4.keep k5 (by simp <;> omega)
 have S5 := S4.keep k5 (fun b hb => by simp; omega)
 have P5 := BF (ok := fun b => w4.heap.size ≤ b ∧ b < w5.heap.size) o5 (fun g hg => Bl o5 hg)
 have F5' : RsAt reqsR (fun b => w4.heap.size ≤ b ∧ b < w5.heap.size) w5 M m := F5.lt.mono fun b hb => ⟨hb.1.1, hb.2⟩
 obtain ⟨pa, pc, rfl, _⟩ := id P5
 have hts := h.st.cnt
 have hc3 := (show t3 <:+ ts from Run.suffix r3).length_le
 have hcnt := parts_cnt _ _ _ _ (Nat.le_refl _) r5
 have hmm : m.length ≤ 9223372036854775807 := by
  obtain ⟨_, _, hv, g1, g2, _⟩ := id P5
  cases hv; omega
 refine As rfl (AH rfl ?_)
 repeat refine nx rfl ?_
 refine BY (α := Nat × Value × List (List Value)) (fun x => [(2, pt w1.heap.size), (4, pt w3.heap.size), (17, .slice pa m.length pc), (18, .int .i64 (m.length : Int)), (19, .int .i64 (x.1 : Int))])
  (fun x W => x.1 ≤ m.length ∧ Keep [E.s] w W ∧ PSt W E t5 ∧ w5.heap.size ≤ W.heap.size ∧ Blk W w1.heap.size 28 [.slice none 0 0, .slice none 0 0] ∧ Blk W w3.heap.size 28 [.slice sa l.length sc, x.2.1] ∧
   Sl (fun b => w2.heap.size ≤ b ∧ b < w3.heap.size) W (.slice sa l.length sc) l.length L.flatten ∧ Sl (fun b => w4.heap.size ≤ b ∧ b < w5.heap.size) W (.slice pa m.length pc) m.length M.flatten ∧ RsAt reqsR (fun b => w4.heap.size ≤ b ∧ b < w5.heap.size) W M m ∧
   W.ownsRow w5.heap.size 30 8 x.2.1 (m.take x.1).flatten.length x.2.2.flatten ∧ RsAt reqR (fun b => w4.heap.size ≤ b ∧ b < w5.heap.size) W x.2.2 (m.take x.1).flatten) (fun x => m.length - x.1) (0, .slice none 0 0, []) ⟨rfl, rfl, rfl, rfl, rfl, trivial⟩
  ⟨by simp, k15, q5, Nat.le_refl _, b5, e5, S5, P5, F5', ⟨by simp, .inl ⟨rfl, rfl⟩⟩, RsAt.nil⟩ ?_
 rintro ⟨k, rv, Q⟩ w6 f6 ⟨hk, k6, q6, z6, b6, e6, S6, P6, F6, o6, G6⟩
 simp only at hk o6 G6 e6 ⊢
 repeat refine nx rfl ?_
 have hb1 : w1.heap.size < w3.heap.size := by omega
 by_cases hlt : k < m.length
 ·obtain ⟨c, hc⟩ : ∃ c, M[k]? = some c := ⟨_, List.getElem?_eq_getElem (by rw [F6.1]; exact hlt)⟩
  obtain ⟨rs, hrs⟩ : ∃ rs, m[k]? = some rs := ⟨_, List.getElem?_eq_getElem hlt⟩
  obtain ⟨pv, rfl, va, vc, V, rfl, SV, FV⟩ := F6.2 k c rs hc hrs
  obtain ⟨b, o, rfl, hb, hcell⟩ : ∃ b o, pa = some ⟨b, o, none⟩ ∧ (w4.heap.size ≤ b ∧ b < w5.heap.size) ∧ w6.cell? ⟨b, o + k, none⟩ = some (.slice va rs.length vc) := by
   obtain ⟨a', cap, hv, g1, g2, g3, g4⟩ := id P6
   cases hv
   obtain ⟨b, o, rfl, hb, hcc⟩ := g4.resolve_left (by omega)
   refine ⟨b, o, rfl, hb, hcc k _ ?_⟩
   have := DD 1 M k 0 _ _ F6.len hc rfl
   simpa using this
  have etk : m.take (k + 1) = m.take k ++ [rs] := by rw [List.take_add_one, hrs]; rfl
  have hcr : (m.take (k + 1)).flatten.length ≤ m.flatten.length := by
   have e1 := congrArg (fun x => x.flatten.length) (List.take_append_drop (k + 1) m)
   simp only [List.flatten_append, List.length_append] at e1; omega
  have etl : (m.take (k + 1)).flatten.length = (m.take k).flatten.length + rs.length := by rw [etk]; simp
  obtain ⟨ra, rc, rfl⟩ : ∃ ra rc, rv = .slice ra (m.take k).flatten.length rc := by
   rcases o6.2 with ⟨rfl, h0⟩ | ⟨g, cap, cur, rfl, _⟩
   ·exact ⟨none, 0, by rw [h0]⟩
   ·exact ⟨_, _, rfl⟩
  have hown : ∀ x ∈ (Value.slice ra (m.take k).flatten.length rc).ownBlock.toList, w5.heap.size ≤ x := fun x hx => (Bl o6 (Option.mem_toList.1 hx)).1
  refine AA (BM rfl rfl (by omega) ?_)
  repeat refine nx rfl ?_
  (refine AA (W_idx1 rfl rfl rfl (by omega) (AG rfl (by assumption) ?_)) <;> refine AB (Ah rfl ?_))
  repeat refine nx rfl ?_
  (refine AA (AD rfl (AG rfl (Blk.cell (by assumption) (by rfl)) ?_)) <;> refine Ah rfl ?_)
  refine CU (v := .slice ra (m.take k).flatten.length rc) (sv := .slice va rs.length vc) rfl rfl o6 SV (by omega) rfl FV.flat FV.oneC (by omega) (by omega) (by omega) (fun v7 w7 a7 => ?_)
  have o7 := a7.own
  have z7 := a7.keep.size
  have hkp : ∀ b, b < w5.heap.size → b ∉ (Value.slice ra (m.take k).flatten.length rc).ownBlock.toList := fun b hb hx => by have := hown b hx; omega
  have e7 := e6.keep a7.keep (hkp _ (by omega))
  have b7 := b6.keep a7.keep (hkp _ (by omega))
  have S7 := S6.keep a7.keep (fun b hb => hkp b (by omega))
  have P7 := P6.keep a7.keep (fun b hb => hkp b hb.2)
  have F7 := F6.keep a7.keep (fun b hb => hkp b hb.2)
  have G7 := (G6.app FV).keep a7.keep (fun b hb => hkp b hb.2)
  have k7 := k6.trans a7.keep (fun x hx hlt => by have := hown x hx; omega)
  have q7 := q6.keep a7.keep (fun x hx => by have := hown x hx; omega)
  obtain ⟨va7, vc7, rfl⟩ : ∃ va7 vc7, v7 = .slice va7 ((m.take k).flatten.length + rs.length) vc7 := by
   rcases o7.2 with ⟨rfl, h0⟩ | ⟨g, cap, cur, rfl, _⟩
   ·exact ⟨none, 0, by rw [h0]⟩
   ·exact ⟨_, _, rfl⟩
  refine AD rfl ?_
  refine Ak rfl rfl rfl e7 (by simp) (fun w8 p8 => ?_)
  have z8 := p8.size
  have hk8 : ∀ b, b ≠ w3.heap.size → b ∉ [w3.heap.size] := fun b hb hx => hb (by simpa using hx)
  repeat refine nx rfl ?_
  (refine AA (BR rfl rfl (by first | exact Al (by omega) (by omega) | exact At (by omega) (by omega) | exact Am (by omega) (by omega)) ?_) <;> refine AH rfl ?_)
  repeat refine nx rfl ?_
  refine ⟨(k + 1, .slice va7 ((m.take k).flatten.length + rs.length) vc7, Q ++ V), ⟨rfl, ⟨rfl, rfl, rfl, rfl, ?_, trivial⟩, ⟨by simp only; omega, k7.trans p8.keep (by simp <;> omega), q7.keep p8.keep (by simp <;> omega), by omega, b7.keep p8.keep (hk8 _ (by omega)), p8.blk, S7.keep p8.keep (fun b hb => hk8 _ (by omega)), P7.keep p8.keep (fun b hb => hk8 _ (by omega)), F7.keep p8.keep (fun b hb => hk8 _ (by omega)), ?_, ?_⟩⟩, by simp only; omega⟩
  ·show Value.int .i64 ((k : Int) + 1) = _
   rw [Int.natCast_add]; rfl
  ·have := A5 o7 p8.keep (fun g hg => hk8 g (by have := Bl o7 hg; omega))
   simp only [etl, List.flatten_append]
   exact this
  ·simp only [etk, List.flatten_append]
   have := G7.keep p8.keep (fun b hb => hk8 _ (by omega))
   simpa using this
 ·obtain rfl : k = m.length := by omega
  rw [List.take_length] at o6 G6
  refine AA (BN rfl rfl (by omega) ?_)
  repeat first | refine nx rfl ?_ | refine nf rfl ?_
  have hr6 := BF (ok := fresh w) o6 (fun g hg => by have := Bl o6 hg; simp only [fresh]; omega)
  obtain ⟨ra, rc, rfl, _⟩ := id hr6
  refine AA (AW rfl e6 rfl ?_)
  refine Aa (cs := [.slice sa l.length sc, .slice ra m.flatten.length rc]) rfl rfl rfl (by intro u hu; simp at hu; rcases hu with rfl | rfl <;> rfl) b6 (by simp) (fun w7 p7 => ?_)
  repeat refine nx rfl ?_
  have b7 : Blk w7 w1.heap.size 28 [.slice sa l.length sc, .slice ra m.flatten.length rc] := p7.blk
  have hk7 : ∀ b, b ≠ w1.heap.size → b ∉ [w1.heap.size] := fun b hb hx => hb (by simpa using hx)
  have F6s : RsAt sgnR (fun b => b ≠ w1.heap.size ∧ fresh w b) w6 L l := ⟨F4.1, fun i c a hc ha => F4.2 i c a hc ha⟩
  have R7 := BF (ok := fun b => b ≠ w1.heap.size ∧ fresh w b) o6 (fun g hg => by have := Bl o6 hg; simp only [fresh]; omega)
  refine A6 rfl rfl rfl b7.cells ⟨k6.trans p7.keep (by simp <;> omega), ⟨l, m.flatten⟩, t5, Run.call r3 (Run.call r5 (Run.ret _ _)), q6.keep p7.keep (by simp <;> omega), _, rfl, _, _, rfl, ⟨_, _, L, rfl, ?_, ?_⟩, ⟨_, _, Q, rfl, ?_, ?_⟩⟩
  ·exact (S6.mono (ok' := fun b => b ≠ w1.heap.size ∧ fresh w b) (fun b hb => by simp only [fresh]; omega)).keep p7.keep (fun b hb => hk7 b hb.1) |>.mono fun b hb => hb.2
  ·exact (F6s.keep p7.keep (fun b hb => hk7 b hb.1)).mono fun b hb => hb.2
  ·exact (R7.keep p7.keep (fun b hb => hk7 b hb.1)).mono fun b hb => hb.2
  ·exact ((G6.mono (ok' := fun b => b ≠ w1.heap.size ∧ fresh w b) (fun b hb => by simp only [fresh]; omega)).keep p7.keep (fun b hb => hk7 b hb.1)).mono fun b hb => hb.2
end Go.Proofs.YtfcgdbmoncnibaaGreatDoor
namespace Go.Proofs.YtfcgdbmoncnibaaGreatDoor
open Go.RowKit
set_option linter.unusedVariables false
variable {mk : Prop} [MK mk]
theorem fml_eq {f g : Fml} : f = g ↔ f.op = g.op ∧ f.name = g.name ∧ f.val = g.val ∧ f.bound = g.bound ∧ f.args = g.args := by
 obtain ⟨a, b, c, d, e⟩ := f
 obtain ⟨a', b', c', d', e'⟩ := g
 simp [Fml.op, Fml.name, Fml.val, Fml.bound, Fml.args]
theorem ints_ok (a b : Int) (w : World) : Fn Tryz.prog 141 [.int .i64 a, .int .i64 b] w fun v w' => ∃ c : Int, v = .int .i64 c ∧ (c = 0 ↔ a = b) ∧ w' = w := by
 refine Ad Tryz.func141 rfl Tryz.ntmps141 (Nat.le_of_ble_eq_true rfl) (by kernel_rfl) ?_
 repeat refine nx rfl ?_
 refine AA (AB (AH rfl ?_))
 repeat refine nx rfl ?_
 by_cases h1 : a < b
 ·refine AA (AH rfl (AH rfl (BM rfl rfl (by omega) ?_)))
  repeat refine nx rfl ?_
  refine AA (AB (AH rfl ?_))
  repeat refine nx rfl ?_
  exact AP rfl ⟨-1, rfl, by omega, rfl⟩
 ·refine AA (AH rfl (AH rfl (BN rfl rfl (by omega) ?_)))
  repeat first | refine nx rfl ?_ | refine nf rfl ?_
  by_cases h2 : b < a
  ·refine AA (AH rfl (AH rfl (W_gtrT rfl rfl (by omega) ?_)))
   repeat refine nx rfl ?_
   refine AA (AB (AH rfl ?_))
   repeat refine nx rfl ?_
   exact AP rfl ⟨1, rfl, by omega, rfl⟩
  ·refine AA (AH rfl (AH rfl (W_gtrF rfl rfl (by omega) ?_)))
   repeat first | refine nx rfl ?_ | refine nf rfl ?_
   refine AA (AB (AH rfl ?_))
   repeat refine nx rfl ?_
   exact AP rfl ⟨0, rfl, by omega, rfl⟩
theorem W_slss {P : Program} {all : Array Oper} {Z : Fr → DS → List PanicEntry → World → Prop} {K : Fr → DS → World → Prop} {rest : List Oper} {f : Fr} {ds : DS} {w : World} {d : Nat} {ty : TypeId} {pos : String} {af : Array Edge} {xt yt : TypeId} {x y : Operand} {s t : List UInt8}
  (hx : ev f x = AM s) (hy : ev f y = AM t) (h : ∀ b : Bool, AU P all Z K rest (upd f d (.bool b)) ds w) : AU P all Z K (⟨some d, .binOp .lss xt x y yt, ty, pos, af, none⟩ :: rest) f ds w :=
 A3 (v := .bool (Op.bytesLess s t)) rfl (by simp [execOp, hx, hy, eqGuard, binOp, Op.stringOp]) (h _)
theorem compare_ok : ∀ (n : Nat) (f g : Fml), SizeOf.sizeOf f ≤ n → ∀ (w : World) (v v' : Value), FAt BH w v f → FAt BH w v' g → Fn Tryz.prog 103 [v, v'] w fun r w' => ∃ c : Int, r = .int .i64 c ∧ (c = 0 ↔ f = g) ∧ Ext w w' := by
 intro n
 induction n with
 | zero => intro f g hn; cases f; simp at hn
 | succ n ih =>
 intro f g hn w v v' hf hg
 obtain ⟨av, rfl, L, hS, hL, h5, hA⟩ := hf.form
 obtain ⟨bv, rfl, M, hS', hL', h5', hA'⟩ := hg.form
 obtain ⟨aa, ac, rfl, _⟩ := id hS
 obtain ⟨ba, bc, rfl, _⟩ := id hS'
 have hla : f.args.length ≤ 9223372036854775807 := by obtain ⟨_, _, hv, g1, g2, _⟩ := id hS; cases hv; omega
 have hsz : ∀ x ∈ f.args, SizeOf.sizeOf x ≤ n := by
  intro x hx
  cases f with
  | mk o nm vl bd args =>
   have := List.sizeOf_lt_of_mem hx
   simp [Fml.args] at this hn
   omega
 refine Ad Tryz.func103 rfl Tryz.ntmps103 (Nat.le_of_ble_eq_true rfl) (by kernel_rfl) ?_
 repeat refine nx rfl ?_
 (refine AA ?_; refine Bs (L := [.int .i64 f.op, AM f.name, .int .i64 f.val, .int .i64 f.bound, .slice aa f.args.length ac]) rfl (fun w1 n1 => ?_))
 refine Bs (L := [.int .i64 g.op, AM g.name, .int .i64 g.val, .int .i64 g.bound, .slice ba g.args.length bc]) rfl (fun w2 n2 => ?_)
 have a2 : Blk w2 w.heap.size 24 [.int .i64 f.op, AM f.name, .int .i64 f.val, .int .i64 f.bound, .slice aa f.args.length ac] := n1.blk.keep n2.keep (by simp)
 have b2 := n2.blk
 have k2 : Ext w w2 := n1.keep.trans n2.keep
 refine AB (AH rfl ?_)
 repeat refine nx rfl ?_
 (refine AA (AD rfl (AG rfl (Blk.cell (by assumption) (by rfl)) ?_)) <;> refine AD rfl (AG rfl (Blk.cell (by assumption) (by rfl)) ?_))
 refine AS (ints_ok _ _ _) rfl ?_
 rintro _ w3 ⟨c0, rfl, h0, rfl⟩
 refine AB (AH rfl (AI ?_))
 refine Q_then ?_
 refine C_seq ?_
 refine CV (α := Int) (fun c => [(2, pt w.heap.size), (3, pt w1.heap.size), (4, .int .i64 0), (5, .int .i64 c)]) (fun c W => Blk W w.heap.size 24 [.int .i64 f.op, AM f.name, .int .i64 f.val, .int .i64 f.bound, .slice aa f.args.length ac] ∧ Blk W w1.heap.size 24 [.int .i64 g.op, AM g.name, .int .i64 g.val, .int .i64 g.bound, .slice ba g.args.length bc] ∧ Ext w W ∧ (c = 0 ↔ f.op = g.op ∧ f.name = g.name)) ?_ ?_
 ·repeat refine nx rfl ?_
  by_cases hc0 : c0 = 0
  ·by_cases hnm : f.name = g.name
   ·(refine AA (AH rfl (Av rfl rfl (by omega) (AC rfl (AE rfl (AD rfl (AE rfl (AG rfl (Blk.cell (by assumption) (by rfl)) ?_))))))) <;> refine AE rfl (AD rfl (AE rfl (AG rfl (Blk.cell (by assumption) (by rfl)) ?_))) <;> (refine AE rfl ?_; refine W_sneq rfl rfl (fun hc => ?_) (fun hc => ?_)) <;> refine AO rfl (AC rfl (AI ?_)))
    ·exact absurd hnm (by assumption)
    repeat first | refine nx rfl ?_ | refine nf rfl ?_
    exact Ar c0 ⟨rfl, rfl, rfl, rfl, trivial⟩ ⟨a2, b2, k2, by simp_all⟩
   ·(refine AA (AH rfl (Av rfl rfl (by omega) (AC rfl (AE rfl (AD rfl (AE rfl (AG rfl (Blk.cell (by assumption) (by rfl)) ?_))))))) <;> refine AE rfl (AD rfl (AE rfl (AG rfl (Blk.cell (by assumption) (by rfl)) ?_))) <;> (refine AE rfl ?_; refine W_sneq rfl rfl (fun hc => ?_) (fun hc => ?_)) <;> refine AO rfl (AC rfl (AI ?_)))
    rotate_left
    ·exact absurd (by assumption) hnm
    repeat refine nx rfl ?_
    refine AA (AB (AH rfl ?_))
    repeat refine nx rfl ?_
    (refine AA (AD rfl (AG rfl (Blk.cell (by assumption) (by rfl)) ?_)) <;> refine AD rfl (AG rfl (Blk.cell (by assumption) (by rfl)) ?_))
    refine W_slss rfl rfl (fun b => ?_)
    refine AI ?_
    cases b with
    | true =>
     repeat refine nx rfl ?_
     refine AA (AB (AH rfl ?_))
     repeat refine nx rfl ?_
     exact Ar (-1) ⟨rfl, rfl, rfl, rfl, trivial⟩ ⟨a2, b2, k2, by simp_all⟩
    | false =>
     repeat first | refine nx rfl ?_ | refine nf rfl ?_
     exact Ar 1 ⟨rfl, rfl, rfl, rfl, trivial⟩ ⟨a2, b2, k2, by simp_all⟩
  ·refine AA (AH rfl (AL rfl rfl (by omega) (AC rfl (AJ rfl (AJ rfl (AJ rfl (AJ rfl (AJ rfl (AQ rfl (AC rfl ?_))))))))))
   repeat first | refine nx rfl ?_ | refine nf rfl ?_
   exact Ar c0 ⟨rfl, rfl, rfl, rfl, trivial⟩ ⟨a2, b2, k2, by simp_all⟩
 clear a2 b2 k2
 rintro c w3 f3 ⟨a2, b2, k2, hp⟩
 refine C_seq ?_
 refine CV (α := Int) (fun c => [(2, pt w.heap.size), (3, pt w1.heap.size), (4, .int .i64 0), (5, .int .i64 c)]) (fun c W => Blk W w.heap.size 24 [.int .i64 f.op, AM f.name, .int .i64 f.val, .int .i64 f.bound, .slice aa f.args.length ac] ∧ Blk W w1.heap.size 24 [.int .i64 g.op, AM g.name, .int .i64 g.val, .int .i64 g.bound, .slice ba g.args.length bc] ∧ Ext w W ∧ (c = 0 ↔ f.op = g.op ∧ f.name = g.name ∧ f.val = g.val)) ?_ ?_
 ·repeat refine nx rfl ?_
  by_cases hc0 : c = 0
  ·refine AA (AH rfl (Av rfl rfl (by omega) ?_))
   repeat refine nx rfl ?_
   (refine AA (AD rfl (AG rfl (Blk.cell (by assumption) (by rfl)) ?_)) <;> refine AD rfl (AG rfl (Blk.cell (by assumption) (by rfl)) ?_))
   refine AS (ints_ok _ _ _) rfl ?_
   rintro _ w5 ⟨c5, rfl, h5c, rfl⟩
   refine AB (AH rfl ?_)
   repeat refine nx rfl ?_
   exact Ar c5 ⟨rfl, rfl, rfl, rfl, trivial⟩ ⟨a2, b2, k2, by have := hp.1 hc0; constructor <;> intro h <;> simp_all <;> omega⟩
  ·refine AA (AH rfl (AL rfl rfl (by omega) ?_))
   repeat first | refine nx rfl ?_ | refine nf rfl ?_
   exact Ar c ⟨rfl, rfl, rfl, rfl, trivial⟩ ⟨a2, b2, k2, by constructor <;> intro h <;> simp_all⟩
 clear a2 b2 k2 hp
 rintro c w3 f3 ⟨a2, b2, k2, hp⟩
 refine C_seq ?_
 refine CV (α := Int) (fun c => [(2, pt w.heap.size), (3, pt w1.heap.size), (4, .int .i64 0), (5, .int .i64 c)]) (fun c W => Blk W w.heap.size 24 [.int .i64 f.op, AM f.name, .int .i64 f.val, .int .i64 f.bound, .slice aa f.args.length ac] ∧ Blk W w1.heap.size 24 [.int .i64 g.op, AM g.name, .int .i64 g.val, .int .i64 g.bound, .slice ba g.args.length bc] ∧ Ext w W ∧ (c = 0 ↔ f.op = g.op ∧ f.name = g.name ∧ f.val = g.val ∧ f.bound = g.bound)) ?_ ?_
 ·repeat refine nx rfl ?_
  by_cases hc0 : c = 0
  ·refine AA (AH rfl (Av rfl rfl (by omega) ?_))
   repeat refine nx rfl ?_
   (refine AA (AD rfl (AG rfl (Blk.cell (by assumption) (by rfl)) ?_)) <;> refine AD rfl (AG rfl (Blk.cell (by assumption) (by rfl)) ?_))
   refine AS (ints_ok _ _ _) rfl ?_
   rintro _ w5 ⟨c5, rfl, h5c, rfl⟩
   refine AB (AH rfl ?_)
   repeat refine nx rfl ?_
   exact Ar c5 ⟨rfl, rfl, rfl, rfl, trivial⟩ ⟨a2, b2, k2, by have := hp.1 hc0; constructor <;> intro h <;> simp_all <;> omega⟩
  ·refine AA (AH rfl (AL rfl rfl (by omega) ?_))
   repeat first | refine nx rfl ?_ | refine nf rfl ?_
   exact Ar c ⟨rfl, rfl, rfl, rfl, trivial⟩ ⟨a2, b2, k2, by constructor <;> intro h <;> simp_all⟩
 clear a2 b2 k2 hp
 rintro c w3 f3 ⟨a2, b2, k2, hp⟩
 refine C_seq ?_
 refine CV (α := Int) (fun c => [(2, pt w.heap.size), (3, pt w1.heap.size), (4, .int .i64 0), (5, .int .i64 c)]) (fun c W => Blk W w.heap.size 24 [.int .i64 f.op, AM f.name, .int .i64 f.val, .int .i64 f.bound, .slice aa f.args.length ac] ∧ Blk W w1.heap.size 24 [.int .i64 g.op, AM g.name, .int .i64 g.val, .int .i64 g.bound, .slice ba g.args.length bc] ∧ Ext w W ∧ (c = 0 ↔ f.op = g.op ∧ f.name = g.name ∧ f.val = g.val ∧ f.bound = g.bound ∧ f.args.length = g.args.length)) ?_ ?_
 ·repeat refine nx rfl ?_
  by_cases hc0 : c = 0
  ·refine AA (AH rfl (Av rfl rfl (by omega) ?_))
   repeat refine nx rfl ?_
   (refine AA (AD rfl (AG rfl (Blk.cell (by assumption) (by rfl)) ?_)) <;> refine As rfl (AD rfl (AG rfl (Blk.cell (by assumption) (by rfl)) ?_)) <;> refine As rfl ?_)
   refine AS (ints_ok _ _ _) rfl ?_
   rintro _ w5 ⟨c5, rfl, h5c, rfl⟩
   refine AB (AH rfl ?_)
   repeat refine nx rfl ?_
   exact Ar c5 ⟨rfl, rfl, rfl, rfl, trivial⟩ ⟨a2, b2, k2, by have := hp.1 hc0; constructor <;> intro h <;> simp_all <;> omega⟩
  ·refine AA (AH rfl (AL rfl rfl (by omega) ?_))
   repeat first | refine nx rfl ?_ | refine nf rfl ?_
   exact Ar c ⟨rfl, rfl, rfl, rfl, trivial⟩ ⟨a2, b2, k2, by constructor <;> intro h <;> simp_all⟩
 clear a2 b2 k2 hp
 rintro c w3 f3 ⟨a2, b2, k2, hp⟩
 refine C_seq ?_
 refine C_seq ?_
 refine AA (AB (AH rfl ?_))
 repeat refine nx rfl ?_
 refine BY (α := Nat × Int) (fun x => [(2, pt w.heap.size), (3, pt w1.heap.size), (4, .int .i64 0), (5, .int .i64 x.2), (6, .int .i64 (x.1 : Int))])
  (fun x W => x.1 ≤ f.args.length ∧ Ext w3 W ∧ (x.2 = 0 ↔ (f.op = g.op ∧ f.name = g.name ∧ f.val = g.val ∧ f.bound = g.bound ∧ f.args.length = g.args.length) ∧ ∀ j, j < x.1 → f.args[j]? = g.args[j]?)) (fun x => f.args.length - x.1) (0, c) ⟨rfl, rfl, rfl, rfl, rfl, trivial⟩
  ⟨by simp, Ext.refl _, by simp only; rw [hp]; exact ⟨fun h => ⟨h, fun j hj => by omega⟩, fun h => h.1⟩⟩ ?_
 rintro ⟨i, c'⟩ w4 f4 ⟨hi, k4, hpi⟩
 simp only at hi hpi ⊢
 repeat refine nx rfl ?_
 have hend : ∀ (W : World), Ext w3 W → (c' = 0 → i = f.args.length) → ∃ c0 : Int, Value.int .i64 c' = .int .i64 c0 ∧ (c0 = 0 ↔ f = g) ∧ Ext w W := by
  intro W kW hii
  refine ⟨c', rfl, ?_, k2.trans kW⟩
  rw [fml_eq]
  constructor
  ·intro h
   obtain ⟨⟨h1, h2, h3, h4, h5⟩, h6⟩ := hpi.1 h
   refine ⟨h1, h2, h3, h4, List.ext_getElem? fun j => ?_⟩
   by_cases hj : j < i
   ·exact h6 j hj
   ·have := hii h
    rw [List.getElem?_eq_none (by omega), List.getElem?_eq_none (by omega)]
  ·rintro ⟨h1, h2, h3, h4, h5⟩
   exact hpi.2 ⟨⟨h1, h2, h3, h4, by rw [h5]⟩, fun j _ => by rw [h5]⟩
 have a4 := a2.keep k4 (by simp)
 have b4 := b2.keep k4 (by simp)
 by_cases hlt : i < f.args.length
 ·by_cases hc0 : c' = 0
  ·have hlen : f.args.length = g.args.length := (hpi.1 hc0).1.2.2.2.2
   have kk := k2.trans k4
   obtain ⟨x, hx⟩ : ∃ x, f.args[i]? = some x := ⟨_, List.getElem?_eq_getElem hlt⟩
   obtain ⟨y, hy⟩ : ∃ y, g.args[i]? = some y := ⟨_, List.getElem?_eq_getElem (by omega)⟩
   obtain ⟨cx, hcx⟩ : ∃ cx, L[i]? = some cx := ⟨_, List.getElem?_eq_getElem (by omega)⟩
   obtain ⟨cy, hcy⟩ : ∃ cy, M[i]? = some cy := ⟨_, List.getElem?_eq_getElem (by omega)⟩
   have hfx := (hA i cx x hcx hx).ext kk
   have hfy := (hA' i cy y hcy hy).ext kk
   have hx5 := h5 cx (List.mem_of_getElem? hcx)
   have hy5 := h5' cy (List.mem_of_getElem? hcy)
   obtain ⟨bx, ox, rfl, _, hcellx⟩ := (hS.ext kk).fml h5 hcx hlt
   obtain ⟨by', oy, rfl, _, hcelly⟩ := (hS'.ext kk).fml h5' hcy (by omega)
   obtain ⟨x0, x1, x2, x3, x4, rfl⟩ := CW hx5
   obtain ⟨y0, y1, y2, y3, y4, rfl⟩ := CW hy5
   (refine AA (AH rfl (AD rfl (AG rfl (Blk.cell (by assumption) (by rfl)) ?_))) <;> refine As rfl (BM rfl rfl (by omega) (AC rfl (AE rfl (AH rfl (AE rfl (Av rfl rfl (by omega) (AO rfl (AC rfl ?_)))))))))
   repeat refine nx rfl ?_
   refine A7 (.read 0 (.read 1 (.read 2 (.read 3 (.read 4 (.read 5 (.read 6 (.read 7 (.read 8 (.read 9 (.alt 10 (.read 11 .done) .stop))))))))))) BA (by kernel_rfl) (fun wd kd ed => ⟨Ext wd, ?_, ?_⟩)
   ·exact Ext.refl _
   have fa : ∀ W : World, Ext wd W → W.cell? ⟨w.heap.size, 0 + 4, none⟩ = some (.slice (some ⟨bx, ox, none⟩) f.args.length ac) := fun W e => ((a4.keep kd (by simp)).keep e (by simp)).cell rfl
   have fb : ∀ W : World, Ext wd W → W.cell? ⟨w1.heap.size, 0 + 4, none⟩ = some (.slice (some ⟨by', oy, none⟩) g.args.length bc) := fun W e => ((b4.keep kd (by simp)).keep e (by simp)).cell rfl
   have fc : ∀ W : World, Ext wd W → Cells W bx (ox + i * 5) [x0, x1, x2, x3, x4] := fun W e => (hcellx.keep kd (by simp)).keep e (by simp)
   have fd : ∀ W : World, Ext wd W → Cells W by' (oy + i * 5) [y0, y1, y2, y3, y4] := fun W e => (hcelly.keep kd (by simp)).keep e (by simp)
   (refine D_R rfl rfl (fun W hW => AD rfl Z3) (D_R rfl rfl (fun W hW => AG rfl (fa W hW) Z3) (D_R rfl rfl (fun W hW => AH rfl Z3) (D_R rfl rfl (fun W hW => CH rfl rfl rfl (by omega) Z3) ?_))) <;> (apply D_R rfl rfl; (intro W hW; refine AZ rfl (by rfl) (fc W hW) ?_; exact Z3)) <;> refine D_R rfl rfl (fun W hW => AD rfl Z3) (D_R rfl rfl (fun W hW => AG rfl (fb W hW) Z3) (D_R rfl rfl (fun W hW => AH rfl Z3) (D_R rfl rfl (fun W hW => CH rfl rfl rfl (by omega) Z3) ?_))) <;> (apply D_R rfl rfl; (intro W hW; refine AZ rfl (by rfl) (fd W hW) ?_; exact Z3)))
   refine D_E rfl ?_
   refine AS (ih x y (hsz x (List.mem_of_getElem? hx)) wd _ _ (hfx.ext kd) (hfy.ext kd)) rfl ?_
   rintro _ w6 ⟨c6, rfl, h6, k6⟩
   refine AI ⟨Ext w6, fun W e => k6.trans e, Ext.refl _, ?_⟩
   refine D_R rfl rfl (fun W hW => AB (AH rfl Z3)) (Ay ?_)
   repeat refine nx rfl ?_
   (refine AA (AH rfl (BR rfl rfl (by first | exact Al (by omega) (by omega) | exact At (by omega) (by omega) | exact Am (by omega) (by omega)) ?_)) <;> refine AB (AH rfl ?_))
   repeat refine nx rfl ?_
   refine ⟨(i + 1, c6), ⟨rfl, ⟨rfl, rfl, rfl, rfl, ?_, trivial⟩, ⟨by simp only; omega, (k4.trans kd).trans k6, ?_⟩⟩, by simp only; omega⟩
   ·show Value.int .i64 ((i : Int) + 1) = _
    rw [Int.natCast_add]; rfl
   ·simp only
    rw [h6]
    obtain ⟨hh, hjj⟩ := hpi.1 hc0
    constructor
    ·rintro rfl
     refine ⟨hh, fun j hj => ?_⟩
     by_cases hji : j = i
     ·subst hji; rw [hx, hy]
     ·exact hjj j (by omega)
    ·rintro ⟨_, hj⟩
     have := hj i (by omega)
     rw [hx, hy] at this
     exact Option.some.inj this
  ·(refine AA (AH rfl (AD rfl (AG rfl (Blk.cell (by assumption) (by rfl)) ?_))) <;> refine As rfl (BM rfl rfl (by omega) (AC rfl (AE rfl (AH rfl (AE rfl (AL rfl rfl (by omega) (AO rfl (AC rfl ?_)))))))))
   repeat first | refine nx rfl ?_ | refine nf rfl ?_
   refine AA (AH rfl (AB (AH rfl ?_)))
   repeat refine nx rfl ?_
   exact AP rfl (hend w4 k4 (fun h => absurd h hc0))
 ·(refine AA (AH rfl (AD rfl (AG rfl (Blk.cell (by assumption) (by rfl)) ?_))) <;> refine As rfl (BN rfl rfl (by omega) (AC rfl (AJ rfl (AJ rfl (AQ rfl (AC rfl ?_)))))))
  repeat first | refine nx rfl ?_ | refine nf rfl ?_
  refine AA (AH rfl (AB (AH rfl ?_)))
  repeat refine nx rfl ?_
  exact AP rfl (hend w4 k4 (fun h => by omega))
theorem same_ok (w : World) (v v' : Value) (f g : Fml) (hf : FAt BH w v f) (hg : FAt BH w v' g) : Fn Tryz.prog 62 [v, v'] w fun r w' => ∃ b : Bool, r = .bool b ∧ (b = true ↔ f = g) ∧ Ext w w' := by
 obtain ⟨cs, rfl, hcs, hone⟩ := hf.cells
 obtain ⟨ds, rfl, hds, hone2⟩ := hg.cells
 obtain ⟨c0, c1, c2, c3, c4, rfl⟩ := CW hcs
 obtain ⟨d0, d1, d2, d3, d4, rfl⟩ := CW hds
 refine Ad Tryz.func62 rfl Tryz.ntmps62 (Nat.le_of_ble_eq_true rfl) (by kernel_rfl) ?_
 repeat refine nx rfl ?_
 (refine AA ?_; refine Bs (L := [c0, c1, c2, c3, c4]) rfl (fun w1 n1 => ?_))
 refine Bs (L := [d0, d1, d2, d3, d4]) rfl (fun w2 n2 => ?_)
 have a2 := n1.blk.keep n2.keep (by simp)
 have b2 := n2.blk
 have k2 : Ext w w2 := n1.keep.trans n2.keep
 refine AB (AC rfl ?_)
 repeat refine nx rfl ?_
 refine AA (AW rfl a2 rfl ?_)
 refine AW rfl b2 rfl ?_
 refine AS (compare_ok _ f g (Nat.le_refl _) w2 _ _ (hf.ext k2) (hg.ext k2)) rfl ?_
 rintro _ w3 ⟨c, rfl, hcq, k3⟩
 by_cases h0 : c = 0
 ·refine Av rfl rfl (by omega) (AB (AC rfl ?_))
  repeat refine nx rfl ?_
  exact AP rfl ⟨true, rfl, by simp [hcq.1 h0], k2.trans k3⟩
 ·refine AL rfl rfl (by omega) (AB (AC rfl ?_))
  repeat refine nx rfl ?_
  exact AP rfl ⟨false, rfl, by simp; exact fun e => h0 (hcq.2 e), k2.trans k3⟩
end Go.Proofs.YtfcgdbmoncnibaaGreatDoor
