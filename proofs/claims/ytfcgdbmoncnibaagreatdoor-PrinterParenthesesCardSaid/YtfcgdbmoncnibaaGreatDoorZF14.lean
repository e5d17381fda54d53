/- The order of formulas: the stack of Compare. The order of formulas: Compare walked. The lexer's laws: gaps. The reference lexer: kinds of bytes, symbols, the next token. The reference lexer: the next token. The reference lexer: all tokens. The printer's laws: texts too long for the lexer; what is parsed of a text that was printed. The printer's laws, plain: parentheses of a text. PrinterParentheses walked. A law's close: what the walk gives, as the row wants it; the common part. Formulas, requirements, specifications and edits that come in, opened. Conditions: none. -/
import Derived.Test.YtfcgdbmoncnibaaGreatDoorZF13
import Derived.WalkKit
import Derived.ProofKit
import Derived.OpenShut
import Derived.JoinedCond
import Derived.ChangeStays
import Derived.ReadAgain
import Derived.Deep.Slices

namespace Go.Proofs.YtfcgdbmoncnibaaGreatDoor
open Go.RowKit
set_option linter.unusedVariables false
variable {mk : Prop} [MK mk]
abbrev PP := List Fml × List Fml
def cmpSt : List PP → Int
 | [] => 0
 | p :: r => CM (cmpL p.1 p.2) (cmpSt r)
def wtSt (ps : List PP) : Nat := (ps.map fun p => 2 * szL p.1 + 1).sum
theorem BG (ps : List PP) (p : PP) : wtSt (ps ++ [p]) = wtSt ps + (2 * szL p.1 + 1) := by simp [wtSt]
theorem wtSt_len : ∀ ps : List PP, ps.length ≤ wtSt ps
 | [] => Nat.zero_le _
 | p :: ps => by have := wtSt_len ps; simp only [wtSt, List.map_cons, List.sum_cons, List.length_cons] at this ⊢; omega
def Row2 (okf okg : Nat → Prop) (W : World) (c : List Value) (p : PP) : Prop := ∃ v v', c = [v, v'] ∧ FL okf W v p.1 ∧ FL okg W v' p.2 ∧ p.1.length = p.2.length
theorem Row2.keep {okf okg : Nat → Prop} {X : List Nat} {W W' : World} {c : List Value} {p : PP} (h : Row2 okf okg W c p) (k : Keep X W W') (h1 : ∀ b, okf b → b ∉ X) (h2 : ∀ b, okg b → b ∉ X) : Row2 okf okg W' c p := by
 obtain ⟨v, v', e, a, b, l⟩ := h
 exact ⟨v, v', e, a.keep k h1, b.keep k h2, l⟩
structure CS (okf okg : Nat → Prop) (C : Nat) (W : World) (g cap : Nat) (e : TypeId) (L : List (List Value)) (rest : List Value) (ps : List PP) : Prop where
 ge : C ≤ g
 blk : Blk W g e (L.flatten ++ rest)
 len : (L.flatten ++ rest).length = cap * 2
 mx : cap ≤ maxLen
 two : ∀ c ∈ L, c.length = 2
 ll : L.length = ps.length
 rows : ∀ (i : Nat) (c : List Value) (p : PP), L[i]? = some c → ps[i]? = some p → Row2 okf okg W c p
 lo : ∀ b, okf b ∨ okg b → b < C
section
variable {okf okg : Nat → Prop} {C g cap : Nat} {W W' : World} {e : TypeId} {L : List (List Value)} {rest : List Value} {ps : List PP}
theorem CS.flat (h : CS okf okg C W g cap e L rest ps) : L.flatten.length = ps.length * 2 := by rw [CG 2 L h.two, h.ll]
theorem CS.le (h : CS okf okg C W g cap e L rest ps) : ps.length ≤ cap := by
 have h1 := h.len
 rw [List.length_append, h.flat] at h1
 omega
theorem CS.ext (h : CS okf okg C W g cap e L rest ps) (k : Ext W W') : CS okf okg C W' g cap e L rest ps :=
 ⟨h.ge, h.blk.keep k (by simp), h.len, h.mx, h.two, h.ll, fun i c p hc hp => (h.rows i c p hc hp).keep k (by simp) (by simp), h.lo⟩
theorem CS.cut {c : List Value} {p : PP} (h : CS okf okg C W g cap e (L ++ [c]) rest (ps ++ [p])) : CS okf okg C W g cap e L (c ++ rest) ps := by
 have e1 : (L ++ [c]).flatten ++ rest = L.flatten ++ (c ++ rest) := by simp
 refine ⟨h.ge, by rw [← e1]; exact h.blk, by rw [← e1]; exact h.len, h.mx, fun d hd => h.two d (by simp [hd]), by have := h.ll; simpa using this, fun i d q hd hq => ?_, h.lo⟩
 have hi := (List.getElem?_eq_some_iff.1 hd).1
 have hi2 := (List.getElem?_eq_some_iff.1 hq).1
 exact h.rows i d q (by rw [List.getElem?_append_left hi]; exact hd) (by rw [List.getElem?_append_left hi2]; exact hq)
theorem CS.split (h : CS okf okg C W g cap e L rest ps) (h0 : 0 < ps.length) : ∃ L' ps' v v' l m, L = L' ++ [[v, v']] ∧ ps = ps' ++ [(l, m)] ∧ FL okf W v l ∧ FL okg W v' m ∧ l.length = m.length := by
 have hl := h.ll
 obtain ⟨ps', q, rfl⟩ : ∃ ps' q, ps = ps' ++ [q] := ⟨ps.dropLast, ps.getLast (by intro e; simp [e] at h0), (List.dropLast_concat_getLast _).symm⟩
 obtain ⟨L', c, rfl⟩ : ∃ L' c, L = L' ++ [c] := ⟨L.dropLast, L.getLast (by intro e; simp [e] at hl), (List.dropLast_concat_getLast _).symm⟩
 simp only [List.length_append, List.length_singleton] at hl
 have hr := h.rows ps'.length c q (by rw [List.getElem?_append_right (by omega)]; simp [show ps'.length - L'.length = 0 by omega]) (by simp)
 obtain ⟨v, v', rfl, h1, h2, h3⟩ := hr
 exact ⟨L', ps', v, v', q.1, q.2, rfl, rfl, h1, h2, h3⟩
theorem CS.cells {v v' : Value} {l m : List Fml} (h : CS okf okg C W g cap e (L ++ [[v, v']]) rest (ps ++ [(l, m)])) : W.cell? ⟨g, 0 + ps.length * 2 + 0, none⟩ = some v ∧ W.cell? ⟨g, 0 + ps.length * 2 + 1, none⟩ = some v' ∧ 0 + ps.length * 2 + 1 < ((L ++ [[v, v']]).flatten ++ rest).length := by
 have hll := h.ll
 simp only [List.length_append, List.length_singleton] at hll
 have hL : L.flatten.length = ps.length * 2 := by rw [CG 2 L fun c hc => h.two c (by simp [hc])]; omega
 have e0 : ((L ++ [[v, v']]).flatten ++ rest)[0 + ps.length * 2 + 0]? = some v := by
  simp only [List.flatten_append, List.flatten_cons, List.flatten_nil, List.append_nil, List.append_assoc]
  rw [List.getElem?_append_right (by omega)]
  simp [hL]
 have e1 : ((L ++ [[v, v']]).flatten ++ rest)[0 + ps.length * 2 + 1]? = some v' := by
  simp only [List.flatten_append, List.flatten_cons, List.flatten_nil, List.append_nil, List.append_assoc]
  rw [List.getElem?_append_right (by omega)]
  rw [show 0 + ps.length * 2 + 1 - L.flatten.length = 1 by omega]; rfl
 exact ⟨h.blk.cell e0, h.blk.cell e1, (List.getElem?_eq_some_iff.1 e1).1⟩
theorem CS.put {v v' u u' : Value} {l m l' m' : List Fml} (h : CS okf okg C W g cap e (L ++ [[v, v']]) rest (ps ++ [(l, m)])) (k : Keep [g] W W')
  (hb : Blk W' g e ((((L ++ [[v, v']]).flatten ++ rest).set (0 + ps.length * 2 + 0) u).set (0 + ps.length * 2 + 1) u')) (h1 : FL okf W' u l') (h2 : FL okg W' u' m') (hlm : l'.length = m'.length) : CS okf okg C W' g cap e (L ++ [[u, u']]) rest (ps ++ [(l', m')]) := by
 have hll := h.ll
 simp only [List.length_append, List.length_singleton] at hll
 have hL2 : ∀ c ∈ L, c.length = 2 := fun c hc => h.two c (by simp [hc])
 have hL : L.flatten.length = ps.length * 2 := by rw [CG 2 L hL2]; omega
 have e0 : (((L ++ [[v, v']]).flatten ++ rest).set (0 + ps.length * 2 + 0) u).set (0 + ps.length * 2 + 1) u' = (L ++ [[u, u']]).flatten ++ rest := by
  simp only [List.flatten_append, List.flatten_cons, List.flatten_nil, List.append_nil, List.append_assoc]
  rw [List.set_append_right _ _ (by omega), List.set_append_right _ _ (by omega), show 0 + ps.length * 2 + 0 - L.flatten.length = 0 by omega, show 0 + ps.length * 2 + 1 - L.flatten.length = 1 by omega]
  rfl
 have hg : ∀ b, okf b ∨ okg b → b ∉ [g] := fun b hb hm => by
  have := h.lo b hb; have := h.ge; simp at hm; omega
 refine ⟨h.ge, by rw [← e0]; exact hb, ?_, h.mx, fun c hc => ?_, by simp; omega, fun i c p hc hp => ?_, h.lo⟩
 ·have := h.len
  simp only [List.flatten_append, List.flatten_cons, List.flatten_nil, List.append_nil, List.length_append, List.length_cons, List.length_nil] at this ⊢
  exact this
 ·rcases List.mem_append.1 hc with hc | hc
  ·exact hL2 c hc
  ·simp at hc; subst hc; rfl
 ·by_cases hi : i < L.length
  ·rw [List.getElem?_append_left hi] at hc
   rw [List.getElem?_append_left (by omega)] at hp
   exact (h.rows i c p (by rw [List.getElem?_append_left hi]; exact hc) (by rw [List.getElem?_append_left (by omega)]; exact hp)).keep k (fun b hb => hg b (.inl hb)) fun b hb => hg b (.inr hb)
  ·have hi2 := (List.getElem?_eq_some_iff.1 hc).1
   simp at hi2
   have : i = L.length := by omega
   subst this
   simp at hc
   have hp' : (ps ++ [(l', m')])[ps.length]? = some p := by rw [show ps.length = L.length by omega]; exact hp
   simp at hp'
   subst hc; subst hp'
   exact ⟨u, u', rfl, h1, h2, hlm⟩
theorem CS.push {g' cap' : Nat} {e' : TypeId} {cur' : Array Value} {u u' : Value} {l' m' : List Fml} (h : CS okf okg C W g cap e L rest ps) (hC : C ≤ W.heap.size) (hg : g' = g ∨ g' = W.heap.size) (hb : W'.heap[g']? = some (.cells cur' e' (0, 0))) (hs : cur'.size = cap' * 2) (hm : cap' ≤ maxLen)
  (ht : cur'.toList.take ((ps.length + 1) * 2) = (L.flatten ++ rest).take (ps.length * 2) ++ [u, u']) (k : Keep [g] W W') (h1 : FL okf W' u l') (h2 : FL okg W' u' m') (hlm : l'.length = m'.length) : CS okf okg C W' g' cap' e' (L ++ [[u, u']]) (cur'.toList.drop ((ps.length + 1) * 2)) (ps ++ [(l', m')]) := by
 have hll := h.ll
 have hge := h.ge
 have hno : ∀ b, okf b ∨ okg b → b ∉ [g] := fun b hb hm => by
  have := h.lo b hb; simp at hm; omega
 have e1 : (L.flatten ++ rest).take (ps.length * 2) = L.flatten := by rw [← h.flat]; exact List.take_left
 have e2 : (L ++ [[u, u']]).flatten ++ cur'.toList.drop ((ps.length + 1) * 2) = cur'.toList := by
  rw [e1] at ht
  simp only [List.flatten_append, List.flatten_cons, List.flatten_nil, List.append_nil]
  rw [← ht, List.take_append_drop]
 refine ⟨by rcases hg with rfl | rfl <;> omega, ?_, by rw [e2]; simpa using hs, hm, fun c hc => ?_, by simp; omega, fun i c p hc hp => ?_, h.lo⟩
 ·rw [e2]
  show W'.heap[g']? = _
  rw [hb]
 ·rcases List.mem_append.1 hc with hc | hc
  ·exact h.two c hc
  ·simp at hc; subst hc; rfl
 ·by_cases hi : i < L.length
  ·rw [List.getElem?_append_left hi] at hc
   rw [List.getElem?_append_left (by omega)] at hp
   exact (h.rows i c p hc hp).keep k (fun b hb => hno b (.inl hb)) fun b hb => hno b (.inr hb)
  ·have hi2 := (List.getElem?_eq_some_iff.1 hc).1
   simp at hi2
   have : i = L.length := by omega
   subst this
   have hp' : (ps ++ [(l', m')])[ps.length]? = some p := by rw [show ps.length = L.length by omega]; exact hp
   simp at hp' hc
   subst hc; subst hp'
   exact ⟨u, u', rfl, h1, h2, hlm⟩
end
end Go.Proofs.YtfcgdbmoncnibaaGreatDoor
namespace Go.Proofs.YtfcgdbmoncnibaaGreatDoor
open Go.RowKit
set_option linter.unusedVariables false
variable {mk : Prop} [MK mk]
theorem cmpL_cons0 {x y : Fml} {l m : List Fml} (h : cmpF x y = 0) : cmpL (x :: l) (y :: m) = cmpL l m := by rw [cmpL, CF h]
theorem DG (a b c : Int) : CM (CM a b) c = CM a (CM b c) := by
 unfold CM
 by_cases h : a = 0
 ·rw [if_pos h, if_pos h]
 ·rw [if_neg h, if_neg h, if_neg h]
structure CI (w : World) (okf okg : Nat → Prop) (N : Nat) (r : Int) (x : Nat × Nat × List PP) (W : World) : Prop where
 cs : ∃ e L rest, CS okf okg w.heap.size W x.1 x.2.1 e L rest x.2.2
 ext : Ext w W
 res : r = cmpSt x.2.2.reverse
 wt : wtSt x.2.2 ≤ N
theorem PF.op {ok : Nat → Prop} {w : World} {b o : Nat} {f : Fml} (h : PF ok w b o f) : w.cell? ⟨b, o + 0, none⟩ = some (.int .i64 f.op) := by
 obtain ⟨_, a, c, L, hc, _⟩ := h.form
 exact hc 0 _ rfl
theorem CZ (ps : List PP) (p : PP) : cmpSt (ps ++ [p]).reverse = CM (cmpL p.1 p.2) (cmpSt ps.reverse) := by simp [cmpSt]
theorem cell_same {w W V : World} {b o : Nat} {v : Value} (k : Ext w W) (k' : Ext w V) (hb : b < w.heap.size) (h : W.cell? ⟨b, o, none⟩ = some v) : V.cell? ⟨b, o, none⟩ = some v := by
 have e1 := k.block b hb (by simp)
 have e2 := k'.block b hb (by simp)
 unfold World.cell? at h ⊢
 rw [e2, ← e1]
 exact h
set_option maxHeartbeats 6400000 in
theorem fcompare_ok (w : World) (v v' : Value) (f g : Fml) (okf okg : Nat → Prop) (hf : FAt okf w v f) (hg : FAt okg w v' g) (hu : (∀ b, okf b → Unm w b) ∨ (∀ b, okg b → Unm w b)) (hz : szF f ≤ 1000000) :
  Fn Tryz.prog 26 [v, v'] w fun r w' => r = .int .i64 (cmpF f g) ∧ Ext w w' := by
 obtain ⟨av, rfl, Lf, hSf, hFf⟩ := hf.form
 obtain ⟨bv, rfl, Lg, hSg, hFg⟩ := hg.form
 obtain ⟨a, c, rfl, _⟩ := id hSf
 obtain ⟨a', c', rfl, _⟩ := id hSg
 have hSf' := hSf.lt (flatten_ne hFf.1 hFf.2.1)
 have hSg' := hSg.lt (flatten_ne hFg.1 hFg.2.1)
 have hlf := hf.lt
 have hlg := hg.lt
 refine Ad Tryz.func26 rfl Tryz.ntmps26 (Nat.le_of_ble_eq_true rfl) (by kernel_rfl) ?_
 repeat refine nx rfl ?_
 (refine AA ?_; refine Bs (L := fcC f (.slice a f.args.length c)) rfl (fun w1 n1 => ?_))
 refine Bs (L := fcC g (.slice a' g.args.length c')) rfl (fun w2 n2 => ?_)
 have b1 := n1.blk.keep n2.keep (by simp)
 have b2 := n2.blk
 have z1 := n1.size
 have z2 := n2.size
 have k2 : Ext w w2 := n1.keep.trans n2.keep
 refine AB (AH rfl ?_)
 repeat refine nx rfl ?_
 have pf : PF BH w2 w.heap.size 0 f := ⟨trivial, fcC f _, rfl, b1.cells, ((hf.ext k2).mono fun _ _ => trivial)⟩
 have pg : PF BH w2 w1.heap.size 0 g := ⟨trivial, fcC g _, rfl, b2.cells, ((hg.ext k2).mono fun _ _ => trivial)⟩
 refine AA ?_
 refine AS (cmpNodes_ok w2 _ _ _ _ f g pf pg) rfl ?_
 rintro _ w3 ⟨rfl, k3⟩
 refine AB (AH rfl ?_)
 repeat refine nx rfl ?_
 have e4 : w3.cell? ⟨w.heap.size, 0 + 4, none⟩ = some (.slice a f.args.length c) := (b1.keep k3 (by simp)).cell rfl
 have e4' : w3.cell? ⟨w1.heap.size, 0 + 4, none⟩ = some (.slice a' g.args.length c') := (b2.keep k3 (by simp)).cell rfl
 have k03 : Ext w w3 := k2.trans k3
 generalize hcn : cmpN f g = cn
 have hsp := cmpF_split f g
 rw [hcn] at hsp
 by_cases hne : cn = 0
 rotate_left
 ·(refine AA (AH rfl ?_) <;> (refine W_neq rfl rfl (fun hc => ?_) (fun hc => ?_) <;> try omega) <;> refine AC rfl (AJ rfl (AJ rfl (AJ rfl (AJ rfl (AO rfl (AC rfl ?_)))))))
  repeat refine nx rfl ?_
  refine AA (AH rfl (AB (AH rfl ?_)))
  repeat refine nx rfl ?_
  exact AP rfl ⟨congrArg (Value.int .i64) (by rw [hsp, thenI_ne hne]), k03⟩
 rw [CF hne] at hsp
 by_cases h0 : f.args.length = 0
 ·(refine AA (AH rfl ?_) <;> (refine W_neq rfl rfl (fun hc => ?_) (fun hc => ?_) <;> try omega) <;> refine AC rfl (AE rfl (AD rfl (AE rfl (AG rfl (by assumption) ?_)))) <;> refine AE rfl (As rfl ?_) <;> (refine AE rfl ?_; (refine By rfl rfl (fun hc => ?_) (fun hc => ?_) <;> try omega)) <;> refine AQ rfl (AC rfl ?_))
  repeat refine nx rfl ?_
  refine AA (AH rfl (AB (AH rfl ?_)))
  repeat refine nx rfl ?_
  refine AP rfl ⟨congrArg (Value.int .i64) ?_, k03⟩
  rw [hsp, List.length_eq_zero_iff.1 h0, hne]
  cases g.args <;> rfl
 (refine AA (AH rfl ?_) <;> (refine W_neq rfl rfl (fun hc => ?_) (fun hc => ?_) <;> try omega) <;> refine AC rfl (AE rfl (AD rfl (AE rfl (AG rfl (by assumption) ?_)))) <;> refine AE rfl (As rfl ?_) <;> (refine AE rfl ?_; (refine By rfl rfl (fun hc => ?_) (fun hc => ?_) <;> try omega)) <;> refine AQ rfl (AC rfl ?_))
 repeat first | refine nx rfl ?_ | refine nf rfl ?_
 have hlen : f.args.length = g.args.length := by
  unfold cmpN at hcn
  rw [hne] at hcn
  simp only [thenI_zero, cmpI_zero] at hcn
  omega
 refine AA ?_
 refine Aw (fun w4 n4 => ?_)
 repeat refine nx rfl ?_
 have z4 := n4.size
 have z3 := k3.size
 have k04 := k03.trans n4.keep
 have FLf : ∀ W, Ext w W → FL (fun b => okf b ∧ b < w.heap.size) W (.slice a f.args.length c) f.args := fun W k => ⟨a, c, Lf, rfl, hSf'.ext k, (FsAt.lt hFf).keep k (by simp)⟩
 have FLg : ∀ W, Ext w W → FL (fun b => okg b ∧ b < w.heap.size) W (.slice a' g.args.length c') g.args := fun W k => ⟨a', c', Lg, rfl, hSg'.ext k, (FsAt.lt hFg).keep k (by simp)⟩
 have hUm : (∀ W, Ext w W → ∀ b, okf b ∧ b < w.heap.size → Unm W b) ∨ (∀ W, Ext w W → ∀ b, okg b ∧ b < w.heap.size → Unm W b) := by
  rcases hu with hu | hu
  ·exact .inl fun W k b hb => (hu b hb.1).eq (k.block b hb.2 (by simp))
  ·exact .inr fun W k b hb => (hu b hb.1).eq (k.block b hb.2 (by simp))
 clear hlf hlg hSf' hSg' pf pg
 refine A7 (.read 0 (.read 1 (.read 2 (.read 3 (.read 4 (.read 5 (.alt 6 (.alt 7 (.read 8 .done) .stop) .stop))))))) BA (by kernel_rfl) (fun wd kd ed => ⟨Ext w3, ?_, ?_⟩)
 ·exact n4.keep.trans kd
 have qa : ∀ W, Ext w3 W → W.cell? ⟨w.heap.size, 0 + 4, none⟩ = some (.slice a f.args.length c) := fun W e => e.cell e4 (by simp)
 have qb : ∀ W, Ext w3 W → W.cell? ⟨w1.heap.size, 0 + 4, none⟩ = some (.slice a' g.args.length c') := fun W e => e.cell e4' (by simp)
 (apply D_R rfl rfl; (intro W hW; (refine W_slice_arr_h rfl rfl (by omega) (by omega) ?_); exact AI ⟨rfl, rfl, rfl⟩))
 (refine D_R rfl rfl (fun W hW => AD rfl Z3) (D_R rfl rfl (fun W hW => AG rfl (qa W hW) Z3) (D_R rfl rfl (fun W hW => AD rfl Z3) (D_R rfl rfl (fun W hW => AG rfl (qb W hW) Z3) ?_))) <;> (apply D_R rfl rfl; (intro W hW; refine Ac (by rfl) (by rfl) ?_; exact Z3)))
 refine D_E rfl ?_
 refine AT (out := [.slice a f.args.length c, .slice a' g.args.length c']) rfl (by omega) (by kernel_rfl) (fun w5 n5 => ?_)
 have z5 := n5.size
 have zd := kd.size
 refine AI ⟨Ext w3, fun _ e => e, (n4.keep.trans kd).trans n5.keep, ?_⟩
 have b5 := (n4.blk.keep kd (by simp)).keep n5.keep (by simp)
 have k45 := (n4.keep.trans kd).trans n5.keep
 refine D_E rfl ?_
 refine W_append1 (size := 2) (n := 0) (cap := 8) (g := w3.heap.size) (sv := .slice (some ⟨wd.heap.size, 0, none⟩) 1 1) (ok := BH) (cs := [.slice a f.args.length c, .slice a' g.args.length c']) rfl rfl b5 (by rfl) (by omega) (by decide)
  ⟨_, _, rfl, by omega, by omega, (fun h => by cases h), .inr ⟨_, _, rfl, trivial, n5.blk.cells⟩⟩ (by decide) rfl rfl (by intro u hu; simp at hu; rcases hu with rfl | rfl <;> rfl) (by omega) (by omega) (fun g' cap' e' cur' w6 hg' hb' hs' hle' hm' ht' k6 => ?_)
 have c0 : CS (fun b => okf b ∧ b < w.heap.size) (fun b => okg b ∧ b < w.heap.size) w.heap.size w5 w3.heap.size 8 _ [] _ [] := ⟨by omega, b5, rfl, by decide, (fun c hc => by cases hc), rfl, (fun i c p hc => by simp at hc), fun b hb => by rcases hb with hb | hb <;> exact hb.2⟩
 have k46 : Ext w3 w6 := k45.keep k6 (by simp)
 have c6 := c0.push (by omega) hg' hb' hs' hm' ht' k6 (FLf w6 (k03.trans k46)) (FLg w6 (k03.trans k46)) hlen
 refine AI ⟨Ext w3, fun _ e => e, k46, ?_⟩
 refine D_R rfl rfl (fun W hW => AB (Ah rfl Z3)) (Ay ?_)
 repeat refine nx rfl ?_
 have hsz := szF_eq f
 refine BY (α := Nat × Nat × List PP) (fun x => [(7, .slice (some ⟨x.1, 0, none⟩) x.2.2.length x.2.1)]) (CI w (fun b => okf b ∧ b < w.heap.size) (fun b => okg b ∧ b < w.heap.size) 2000001 (cmpF f g)) (fun x => wtSt x.2.2) (g', cap', [(f.args, g.args)]) ⟨rfl, trivial⟩
  ⟨⟨_, _, _, c6⟩, k03.trans k46, by rw [hsp]; simp [cmpSt, CM], by simp [wtSt]; omega⟩ ?_
 clear c6 c0 k46 k45 hb' ht' k6 FLf FLg b5 n5 n4 hc qa qb e4 e4' kd
 rintro ⟨gb, cap, ps⟩ W f3 hI
 obtain ⟨⟨e, L, rest, hcs⟩, kW, hres, hwt⟩ := hI
 simp only at hcs hres hwt ⊢
 repeat refine nx rfl ?_
 by_cases hp0 : ps.length = 0
 ·have e0 : ps = [] := List.length_eq_zero_iff.1 hp0
  subst e0
  (refine AA (Ah rfl (As rfl ?_)) <;> (refine W_gtr rfl rfl (fun hc => ?_) (fun hc => ?_) <;> try omega))
  repeat first | refine nx rfl ?_ | refine nf rfl ?_
  refine AA (AB (AH rfl ?_))
  repeat refine nx rfl ?_
  exact AP rfl ⟨congrArg (Value.int .i64) (by rw [hres]; rfl), kW⟩
 obtain ⟨L', ps', v, v', l, m, rfl, rfl, hl, hm, hlm⟩ := hcs.split (by omega)
 obtain ⟨x0, x1, hlt⟩ := hcs.cells
 have hle := hcs.le
 have hlo := hcs.lo
 have hge := hcs.ge
 have hno : ∀ b, (okf b ∧ b < w.heap.size) ∨ (okg b ∧ b < w.heap.size) → b ∉ [gb] := fun b hb hm => by
  have := hlo b hb; simp at hm; omega
 have hlen' := wtSt_len ps'
 rw [CZ] at hres
 rw [BG] at hwt
 simp only [List.length_append, List.length_singleton] at hle ⊢
 simp only at hres hwt
 clear hp0
 (refine AA (Ah rfl (As rfl ?_)) <;> (refine W_gtr rfl rfl (fun hc => ?_) (fun hc => ?_) <;> try omega))
 repeat refine nx rfl ?_
 refine AA (Ah rfl (Ah rfl (As rfl (W_sub rfl rfl (by first | exact Al (by omega) (by omega) | exact At (by omega) (by omega) | exact Am (by omega) (by omega)) ?_))))
 refine CH (k := ps'.length) rfl rfl (by omega) (by omega) ?_
 refine AB (AK rfl ?_)
 repeat refine nx rfl ?_
 cases l with
 | nil =>
  obtain ⟨a0, c0, rfl⟩ := hl.form
  have hl0 : ([] : List Fml).length = 0 := rfl
  (refine AA (AK rfl (AF rfl (AD rfl (AG rfl (by assumption) ?_)))) <;> refine As rfl ?_ <;> (refine By rfl rfl (fun hc => ?_) (fun hc => ?_) <;> try omega))
  repeat refine nx rfl ?_
  refine AA (Ah rfl (Ah rfl (As rfl (W_sub rfl rfl (by first | exact Al (by omega) (by omega) | exact At (by omega) (by omega) | exact Am (by omega) (by omega)) ?_))))
  refine W_slice_h rfl rfl (by omega) (by omega) ?_
  rw [show ((((ps'.length + 1 : Nat) : Int) - 1).toNat) = ps'.length by omega]
  refine AB (Ah rfl ?_)
  repeat refine nx rfl ?_
  refine ⟨(gb, cap, ps'), ⟨rfl, ⟨rfl, trivial⟩, ⟨⟨_, _, _, hcs.cut⟩, kW, ?_, by simp only; omega⟩⟩, by simp only; rw [BG]; omega⟩
  simp only
  rw [hres]
  rfl
 | cons x l =>
  cases m with
  | nil => simp at hlm
  | cons y m =>
   obtain ⟨bx, ox, cx, rfl, hcx, hx, tx⟩ := hl.cons
   obtain ⟨by', oy, cy, rfl, hcy, hy, ty⟩ := hm.cons
   have hlm' : l.length = m.length := by simpa using hlm
   have hsx := szF_eq x
   simp only [szL] at hwt
   (refine AA (AK rfl (AF rfl (AD rfl (AG rfl (by assumption) ?_)))) <;> refine As rfl ?_ <;> (refine By rfl rfl (fun hc => ?_) (fun hc => ?_) <;> try omega))
   repeat first | refine nx rfl ?_ | refine nf rfl ?_
   refine A7 (.read 0 (.read 1 (.read 2 (.read 3 (.read 4 (.read 5 (.read 6 (.read 7 (.read 8 (.read 9 (.read 10 (.read 11 .done)))))))))))) BA (by kernel_rfl) (fun wd kd ed => ⟨Ext wd, ?_, ?_⟩)
   ·exact Ext.refl _
   have qx0 : ∀ V, Ext wd V → V.cell? ⟨gb, 0 + ps'.length * 2 + 0, none⟩ = some (.slice (some ⟨bx, ox, none⟩) (l.length + 1) cx) := fun V e => (kd.trans e).cell x0 (by simp)
   have qx1 : ∀ V, Ext wd V → V.cell? ⟨gb, 0 + ps'.length * 2 + 1, none⟩ = some (.slice (some ⟨by', oy, none⟩) (m.length + 1) cy) := fun V e => (kd.trans e).cell x1 (by simp)
   refine D_R rfl rfl (fun W hW => AK rfl Z3) (D_R rfl rfl (fun W hW => AF rfl Z3) (D_R rfl rfl (fun W hW => AD rfl Z3) (D_R rfl rfl (fun W hW => AG rfl (qx0 W hW) Z3) ?_)))
   (apply D_R rfl rfl; (intro W hW; refine CH (k := 0) rfl rfl rfl (by omega) ?_; exact AI ⟨rfl, rfl, rfl⟩))
   refine D_R rfl rfl (fun W hW => AK rfl Z3) (D_R rfl rfl (fun W hW => AF rfl Z3) (D_R rfl rfl (fun W hW => AD rfl Z3) (D_R rfl rfl (fun W hW => AG rfl (qx1 W hW) Z3) ?_)))
   (apply D_R rfl rfl; (intro W hW; refine CH (k := 0) rfl rfl rfl (by omega) ?_; exact AI ⟨rfl, rfl, rfl⟩))
   refine D_R rfl rfl (fun W hW => AB (AK rfl Z3)) (D_R rfl rfl (fun W hW => AB (AK rfl Z3)) (Ay ?_))
   repeat refine nx rfl ?_
   have kA := kd
   clear kd qx0 qx1
   refine A7 (.read 0 (.read 1 (.read 2 (.read 3 (.read 4 (.read 7 (.read 8 (.read 9 (.alt 5 (.read 6 (.alt 10 (.read 11 (.read 12 (.read 13 (.alt 14 (.read 15 (.read 16 (.alt 17 .done .stop))) .stop)))) .stop)) (.alt 10 (.read 11 (.alt 5 (.read 6 (.read 12 (.read 13 (.alt 14 (.read 15 (.read 16 (.alt 17 .done .stop))) .stop)))) .stop)) .stop)))))))))) BA (by kernel_rfl) (fun wd kd ed => ⟨fun _ => True, ?_, ?_⟩)
   ·trivial
   have kAD := kA.trans kd
   have kD : Keep [gb] W wd := kAD.any
   have bd := hcs.blk.keep kAD (by simp)
   have y0 := kAD.cell x0 (by simp)
   have y1 := kAD.cell x1 (by simp)
   refine D_R rfl rfl (fun W hW => AK rfl Z3) (D_R rfl rfl (fun W hW => AK rfl Z3) (D_R rfl rfl (fun W hW => AK rfl Z3) (D_R rfl rfl (fun W hW => AF rfl Z3) (D_R rfl rfl (fun W hW => AD rfl Z3) (D_R rfl rfl (fun W hW => AK rfl Z3) (D_R rfl rfl (fun W hW => AF rfl Z3) (D_R rfl rfl (fun W hW => AD rfl Z3) ?_)))))))
   refine D_A rfl ?_ (D_E rfl ?_)
   ·refine AG rfl y0 ?_
    refine AI ⟨_, fun _ h => h, trivial, ?_⟩
    ((apply D_R rfl rfl; (intro W hW; refine DI rfl rfl (by omega) (by omega) ?_; exact AI ⟨rfl, rfl, rfl⟩)))
    refine D_E rfl ?_
    refine AG rfl y1 ?_
    refine AI ⟨_, fun _ h => h, trivial, ?_⟩
    refine D_R rfl rfl (fun W hW => DI rfl rfl (by omega) (by omega) Z3) (D_R rfl rfl (fun W hW => AF rfl Z3) (D_R rfl rfl (fun W hW => AD rfl Z3) ?_))
    refine D_E rfl ?_
    refine Ak rfl rfl rfl bd (by omega) (fun wA pA => ?_)
    refine AI ⟨_, fun _ h => h, trivial, ?_⟩
    refine D_R rfl rfl (fun W hW => AF rfl Z3) (D_R rfl rfl (fun W hW => AD rfl Z3) ?_)
    refine D_E rfl ?_
    refine Ak rfl rfl rfl pA.blk (by rw [List.length_set]; omega) (fun wB pB => ?_)
    refine AI ⟨_, fun _ h => h, trivial, ?_⟩
    refine Ay ?_
    repeat refine nx rfl ?_
    have kB : Keep [gb] W wB := (kD.trans pA.keep (by simp)).trans pB.keep (by simp)
    have hB := hcs.put kB pB.blk (tx.keep kB fun b hb hm => hno b (.inl hb) hm) (ty.keep kB fun b hb hm => hno b (.inr hb) hm) hlm'
    have kWB : Ext w wB := kW.keep kB (by simp; exact hcs.ge)
    have px := hx.keep kB fun b hb hm => hno b (.inl hb) hm
    have py := hy.keep kB fun b hb hm => hno b (.inr hb) hm
    obtain ⟨ca, ta, fa, ha1, ha2, _⟩ := cell_blk px.op
    obtain ⟨cb, tb, fb, hb1, hb2, _⟩ := cell_blk py.op
    have huv : fa = (0, 0) ∨ fb = (0, 0) := by
     rcases hUm with hU | hU
     ·obtain ⟨c1, t1, h1, _⟩ := unm_blk (hU wB kWB bx px.1) px.op
      rw [ha1] at h1; cases h1; exact .inl rfl
     ·obtain ⟨c1, t1, h1, _⟩ := unm_blk (hU wB kWB by' py.1) py.op
      rw [hb1] at h1; cases h1; exact .inr rfl
    refine AA (AK rfl (AK rfl ?_))
    refine W_ptrEq (a := ⟨bx, ox + 0 * 5, none⟩) (b := ⟨by', oy + 0 * 5, none⟩) rfl rfl ha1 hb1 huv ha2 hb2 ?_
    refine AI ?_
    by_cases hab : (⟨bx, ox + 0 * 5, none⟩ : Addr) = ⟨by', oy + 0 * 5, none⟩
    ·rw [decide_eq_true hab]
     repeat refine nx rfl ?_
     obtain ⟨rfl, rfl⟩ : bx = by' ∧ ox = oy := by
      have := Addr.mk.inj hab
      exact ⟨this.1, by have := this.2.1; omega⟩
     have hxy := px.uniq py
     refine ⟨(gb, cap, ps' ++ [(l, m)]), ⟨rfl, ⟨congrArg (fun n => Value.slice (some ⟨gb, 0, none⟩) n cap) (by simp), trivial⟩, ⟨⟨_, _, _, hB⟩, kWB, ?_, by simp only; rw [BG]; simp only; omega⟩⟩, by simp only; rw [BG, BG]; simp only [szL]; omega⟩
     simp only
     rw [CZ, hres, cmpL_cons0 ((cmpF_zero x y).2 hxy)]
    ·rw [decide_eq_false hab]
     repeat first | refine nx rfl ?_ | refine nf rfl ?_
     refine AA (AK rfl (AK rfl ?_))
     refine AS (cmpNodes_ok wB bx _ by' _ x y (px.mono fun _ _ => trivial) (py.mono fun _ _ => trivial)) rfl ?_
     rintro _ wC ⟨rfl, kC⟩
     refine AB (AH rfl ?_)
     repeat refine nx rfl ?_
     have kWC := kWB.trans kC
     have hC := hB.ext kC
     have pxC := px.keep kC (by simp)
     have pyC := py.keep kC (by simp)
     generalize hcn2 : cmpN x y = cn2
     have hs2 := cmpF_split x y
     rw [hcn2] at hs2
     by_cases hn2 : cn2 = 0
     rotate_left
     ·(refine AA (AH rfl ?_) <;> (refine W_neq rfl rfl (fun hc => ?_) (fun hc => ?_) <;> try omega))
      repeat refine nx rfl ?_
      refine AA (AH rfl (AB (AH rfl ?_)))
      repeat refine nx rfl ?_
      exact AP rfl ⟨congrArg (Value.int .i64) (by rw [hres, cmpL, hs2, DG, DG, thenI_ne hn2]), kWC⟩
     rw [CF hn2] at hs2
     have hlxy : x.args.length = y.args.length := by
      unfold cmpN at hcn2
      rw [hn2] at hcn2
      simp only [thenI_zero, cmpI_zero] at hcn2
      omega
     (refine AA (AH rfl ?_) <;> (refine W_neq rfl rfl (fun hc => ?_) (fun hc => ?_) <;> try omega))
     repeat first | refine nx rfl ?_ | refine nf rfl ?_
     obtain ⟨vx, cvx, fvx⟩ := pxC.args
     obtain ⟨vy, cvy, fvy⟩ := pyC.args
     obtain ⟨ax, cxx, rfl⟩ := fvx.form
     obtain ⟨ay, cyy, rfl⟩ := fvy.form
     have cvx' : wC.cell? ⟨bx, ox + 0 * 5 + 4, none⟩ = some (.slice ax x.args.length cxx) := cvx
     have cvy' : wC.cell? ⟨by', oy + 0 * 5 + 4, none⟩ = some (.slice ay y.args.length cyy) := cvy
     by_cases hax : 0 < x.args.length
     ·(refine AA (AK rfl (AF rfl (AD rfl (AG rfl (by assumption) ?_)))) <;> refine As rfl ?_ <;> (refine W_gtr rfl rfl (fun hc => ?_) (fun hc => ?_) <;> try omega))
      repeat refine nx rfl ?_
      refine A7 (.read 0 (.read 1 (.read 2 (.read 3 (.read 4 (.read 5 (.read 6 (.read 7 (.read 8 (.read 9 (.alt 10 (.alt 11 (.read 12 .done) .stop) .stop))))))))))) BA (by kernel_rfl) (fun wd kd ed => ⟨Ext w, ?_, ?_⟩)
      ·exact kWC.trans kd
      have qp : ∀ V, Ext w V → V.cell? ⟨bx, ox + 0 * 5 + 4, none⟩ = some (.slice ax x.args.length cxx) := fun V e => cell_same kWC e px.1.2 cvx'
      have qq : ∀ V, Ext w V → V.cell? ⟨by', oy + 0 * 5 + 4, none⟩ = some (.slice ay y.args.length cyy) := fun V e => cell_same kWC e py.1.2 cvy'
      (refine D_R rfl rfl (fun W hW => Ah rfl Z3) (D_R rfl rfl (fun W hW => AK rfl Z3) (D_R rfl rfl (fun W hW => AF rfl Z3) (D_R rfl rfl (fun W hW => AD rfl Z3) (D_R rfl rfl (fun W hW => AG rfl (qp W hW) Z3) (D_R rfl rfl (fun W hW => AK rfl Z3) (D_R rfl rfl (fun W hW => AF rfl Z3) (D_R rfl rfl (fun W hW => AD rfl Z3) (D_R rfl rfl (fun W hW => AG rfl (qq W hW) Z3) ?_)))))))) <;> (apply D_R rfl rfl; (intro W hW; refine Ac (by rfl) (by rfl) ?_; exact Z3)))
      refine D_E rfl ?_
      refine AT (out := [.slice ax x.args.length cxx, .slice ay y.args.length cyy]) rfl (by omega) (by kernel_rfl) (fun wE nE => ?_)
      have kCE := kd.trans nE.keep
      have kWE := kWC.trans kCE
      have hE := hC.ext kCE
      refine AI ⟨Ext w, fun _ e => e, kWE, ?_⟩
      have hps : (ps' ++ [(l, m)]).length = ps'.length + 1 := by simp
      refine D_E rfl ?_
      refine W_append1 (size := 2) (n := ps'.length + 1) (cap := cap) (g := gb) (sv := .slice (some ⟨wd.heap.size, 0, none⟩) 1 1) (ok := BH) (cs := [.slice ax x.args.length cxx, .slice ay y.args.length cyy]) rfl rfl hE.blk (by rw [List.size_toArray]; exact hE.len) (by omega) hE.mx
       ⟨_, _, rfl, by omega, by omega, (fun h => by cases h), .inr ⟨_, _, rfl, trivial, nE.blk.cells⟩⟩ (by decide) rfl rfl (by intro u hu; simp at hu; rcases hu with rfl | rfl <;> rfl) (by omega) (by omega) (fun g2 cap2 e2 cur2 wF hg2 hb2' hs2' hle2 hm2 ht2 kF => ?_)
      have hF := hE.push kWE.size hg2 hb2' hs2' hm2 (by rw [hps]; simpa using ht2) kF (fvx.keep (kCE.any.trans kF (by simp)) fun b hb hm => hno b (.inl hb) hm) (fvy.keep (kCE.any.trans kF (by simp)) fun b hb hm => hno b (.inr hb) hm) hlxy
      have kWF := kWE.keep kF (by simp; exact hge)
      refine AI ⟨Ext w, fun _ e => e, kWF, ?_⟩
      refine D_R rfl rfl (fun W hW => AB (Ah rfl Z3)) (Ay ?_)
      repeat refine nx rfl ?_
      refine ⟨(g2, cap2, ps' ++ [(l, m)] ++ [(x.args, y.args)]), ⟨rfl, ⟨congrArg (fun n => Value.slice (some ⟨g2, 0, none⟩) n cap2) (by simp), trivial⟩, ⟨⟨_, _, _, hF⟩, kWF, ?_, by simp only; rw [BG, BG]; simp only; omega⟩⟩, by simp only; rw [BG, BG, BG]; simp only [szL]; omega⟩
      simp only
      rw [CZ, CZ, hres, cmpL, hs2, DG]
     ·(refine AA (AK rfl (AF rfl (AD rfl (AG rfl (by assumption) ?_)))) <;> refine As rfl ?_ <;> (refine W_gtr rfl rfl (fun hc => ?_) (fun hc => ?_) <;> try omega))
      repeat first | refine nx rfl ?_ | refine nf rfl ?_
      have ex : x.args = [] := List.length_eq_zero_iff.1 (by omega)
      have ez : cmpF x y = 0 := by rw [hs2, ex]; cases y.args <;> rfl
      refine ⟨(gb, cap, ps' ++ [(l, m)]), ⟨rfl, ⟨congrArg (fun n => Value.slice (some ⟨gb, 0, none⟩) n cap) (by simp), trivial⟩, ⟨⟨_, _, _, hC⟩, kWC, ?_, by simp only; rw [BG]; simp only; omega⟩⟩, by simp only; rw [BG, BG]; simp only [szL]; omega⟩
      simp only
      rw [CZ, hres, cmpL_cons0 ez]
   ·refine AG rfl y1 ?_
    refine AI ⟨_, fun _ h => h, trivial, ?_⟩
    ((apply D_R rfl rfl; (intro W hW; refine DI rfl rfl (by omega) (by omega) ?_; exact AI ⟨rfl, rfl, rfl⟩)))
    refine D_E rfl ?_
    refine AG rfl y0 ?_
    refine AI ⟨_, fun _ h => h, trivial, ?_⟩
    refine D_R rfl rfl (fun W hW => DI rfl rfl (by omega) (by omega) Z3) (D_R rfl rfl (fun W hW => AF rfl Z3) (D_R rfl rfl (fun W hW => AD rfl Z3) ?_))
    refine D_E rfl ?_
    refine Ak rfl rfl rfl bd (by omega) (fun wA pA => ?_)
    refine AI ⟨_, fun _ h => h, trivial, ?_⟩
    refine D_R rfl rfl (fun W hW => AF rfl Z3) (D_R rfl rfl (fun W hW => AD rfl Z3) ?_)
    refine D_E rfl ?_
    refine Ak rfl rfl rfl pA.blk (by rw [List.length_set]; omega) (fun wB pB => ?_)
    refine AI ⟨_, fun _ h => h, trivial, ?_⟩
    refine Ay ?_
    repeat refine nx rfl ?_
    have kB : Keep [gb] W wB := (kD.trans pA.keep (by simp)).trans pB.keep (by simp)
    have hB := hcs.put kB pB.blk (tx.keep kB fun b hb hm => hno b (.inl hb) hm) (ty.keep kB fun b hb hm => hno b (.inr hb) hm) hlm'
    have kWB : Ext w wB := kW.keep kB (by simp; exact hcs.ge)
    have px := hx.keep kB fun b hb hm => hno b (.inl hb) hm
    have py := hy.keep kB fun b hb hm => hno b (.inr hb) hm
    obtain ⟨ca, ta, fa, ha1, ha2, _⟩ := cell_blk px.op
    obtain ⟨cb, tb, fb, hb1, hb2, _⟩ := cell_blk py.op
    have huv : fa = (0, 0) ∨ fb = (0, 0) := by
     rcases hUm with hU | hU
     ·obtain ⟨c1, t1, h1, _⟩ := unm_blk (hU wB kWB bx px.1) px.op
      rw [ha1] at h1; cases h1; exact .inl rfl
     ·obtain ⟨c1, t1, h1, _⟩ := unm_blk (hU wB kWB by' py.1) py.op
      rw [hb1] at h1; cases h1; exact .inr rfl
    refine AA (AK rfl (AK rfl ?_))
    refine W_ptrEq (a := ⟨bx, ox + 0 * 5, none⟩) (b := ⟨by', oy + 0 * 5, none⟩) rfl rfl ha1 hb1 huv ha2 hb2 ?_
    refine AI ?_
    by_cases hab : (⟨bx, ox + 0 * 5, none⟩ : Addr) = ⟨by', oy + 0 * 5, none⟩
    ·rw [decide_eq_true hab]
     repeat refine nx rfl ?_
     obtain ⟨rfl, rfl⟩ : bx = by' ∧ ox = oy := by
      have := Addr.mk.inj hab
      exact ⟨this.1, by have := this.2.1; omega⟩
     have hxy := px.uniq py
     refine ⟨(gb, cap, ps' ++ [(l, m)]), ⟨rfl, ⟨congrArg (fun n => Value.slice (some ⟨gb, 0, none⟩) n cap) (by simp), trivial⟩, ⟨⟨_, _, _, hB⟩, kWB, ?_, by simp only; rw [BG]; simp only; omega⟩⟩, by simp only; rw [BG, BG]; simp only [szL]; omega⟩
     simp only
     rw [CZ, hres, cmpL_cons0 ((cmpF_zero x y).2 hxy)]
    ·rw [decide_eq_false hab]
     repeat first | refine nx rfl ?_ | refine nf rfl ?_
     refine AA (AK rfl (AK rfl ?_))
     refine AS (cmpNodes_ok wB bx _ by' _ x y (px.mono fun _ _ => trivial) (py.mono fun _ _ => trivial)) rfl ?_
     rintro _ wC ⟨rfl, kC⟩
     refine AB (AH rfl ?_)
     repeat refine nx rfl ?_
     have kWC := kWB.trans kC
     have hC := hB.ext kC
     have pxC := px.keep kC (by simp)
     have pyC := py.keep kC (by simp)
     generalize hcn2 : cmpN x y = cn2
     have hs2 := cmpF_split x y
     rw [hcn2] at hs2
     by_cases hn2 : cn2 = 0
     rotate_left
     ·(refine AA (AH rfl ?_) <;> (refine W_neq rfl rfl (fun hc => ?_) (fun hc => ?_) <;> try omega))
      repeat refine nx rfl ?_
      refine AA (AH rfl (AB (AH rfl ?_)))
      repeat refine nx rfl ?_
      exact AP rfl ⟨congrArg (Value.int .i64) (by rw [hres, cmpL, hs2, DG, DG, thenI_ne hn2]), kWC⟩
     rw [CF hn2] at hs2
     have hlxy : x.args.length = y.args.length := by
      unfold cmpN at hcn2
      rw [hn2] at hcn2
      simp only [thenI_zero, cmpI_zero] at hcn2
      omega
     (refine AA (AH rfl ?_) <;> (refine W_neq rfl rfl (fun hc => ?_) (fun hc => ?_) <;> try omega))
     repeat first | refine nx rfl ?_ | refine nf rfl ?_
     obtain ⟨vx, cvx, fvx⟩ := pxC.args
     obtain ⟨vy, cvy, fvy⟩ := pyC.args
     obtain ⟨ax, cxx, rfl⟩ := fvx.form
     obtain ⟨ay, cyy, rfl⟩ := fvy.form
     have cvx' : wC.cell? ⟨bx, ox + 0 * 5 + 4, none⟩ = some (.slice ax x.args.length cxx) := cvx
     have cvy' : wC.cell? ⟨by', oy + 0 * 5 + 4, none⟩ = some (.slice ay y.args.length cyy) := cvy
     by_cases hax : 0 < x.args.length
     ·(refine AA (AK rfl (AF rfl (AD rfl (AG rfl (by assumption) ?_)))) <;> refine As rfl ?_ <;> (refine W_gtr rfl rfl (fun hc => ?_) (fun hc => ?_) <;> try omega))
      repeat refine nx rfl ?_
      refine A7 (.read 0 (.read 1 (.read 2 (.read 3 (.read 4 (.read 5 (.read 6 (.read 7 (.read 8 (.read 9 (.alt 10 (.alt 11 (.read 12 .done) .stop) .stop))))))))))) BA (by kernel_rfl) (fun wd kd ed => ⟨Ext w, ?_, ?_⟩)
      ·exact kWC.trans kd
      have qp : ∀ V, Ext w V → V.cell? ⟨bx, ox + 0 * 5 + 4, none⟩ = some (.slice ax x.args.length cxx) := fun V e => cell_same kWC e px.1.2 cvx'
      have qq : ∀ V, Ext w V → V.cell? ⟨by', oy + 0 * 5 + 4, none⟩ = some (.slice ay y.args.length cyy) := fun V e => cell_same kWC e py.1.2 cvy'
      (refine D_R rfl rfl (fun W hW => Ah rfl Z3) (D_R rfl rfl (fun W hW => AK rfl Z3) (D_R rfl rfl (fun W hW => AF rfl Z3) (D_R rfl rfl (fun W hW => AD rfl Z3) (D_R rfl rfl (fun W hW => AG rfl (qp W hW) Z3) (D_R rfl rfl (fun W hW => AK rfl Z3) (D_R rfl rfl (fun W hW => AF rfl Z3) (D_R rfl rfl (fun W hW => AD rfl Z3) (D_R rfl rfl (fun W hW => AG rfl (qq W hW) Z3) ?_)))))))) <;> (apply D_R rfl rfl; (intro W hW; refine Ac (by rfl) (by rfl) ?_; exact Z3)))
      refine D_E rfl ?_
      refine AT (out := [.slice ax x.args.length cxx, .slice ay y.args.length cyy]) rfl (by omega) (by kernel_rfl) (fun wE nE => ?_)
      have kCE := kd.trans nE.keep
      have kWE := kWC.trans kCE
      have hE := hC.ext kCE
      refine AI ⟨Ext w, fun _ e => e, kWE, ?_⟩
      have hps : (ps' ++ [(l, m)]).length = ps'.length + 1 := by simp
      refine D_E rfl ?_
      refine W_append1 (size := 2) (n := ps'.length + 1) (cap := cap) (g := gb) (sv := .slice (some ⟨wd.heap.size, 0, none⟩) 1 1) (ok := BH) (cs := [.slice ax x.args.length cxx, .slice ay y.args.length cyy]) rfl rfl hE.blk (by rw [List.size_toArray]; exact hE.len) (by omega) hE.mx
       ⟨_, _, rfl, by omega, by omega, (fun h => by cases h), .inr ⟨_, _, rfl, trivial, nE.blk.cells⟩⟩ (by decide) rfl rfl (by intro u hu; simp at hu; rcases hu with rfl | rfl <;> rfl) (by omega) (by omega) (fun g2 cap2 e2 cur2 wF hg2 hb2' hs2' hle2 hm2 ht2 kF => ?_)
      have hF := hE.push kWE.size hg2 hb2' hs2' hm2 (by rw [hps]; simpa using ht2) kF (fvx.keep (kCE.any.trans kF (by simp)) fun b hb hm => hno b (.inl hb) hm) (fvy.keep (kCE.any.trans kF (by simp)) fun b hb hm => hno b (.inr hb) hm) hlxy
      have kWF := kWE.keep kF (by simp; exact hge)
      refine AI ⟨Ext w, fun _ e => e, kWF, ?_⟩
      refine D_R rfl rfl (fun W hW => AB (Ah rfl Z3)) (Ay ?_)
      repeat refine nx rfl ?_
      refine ⟨(g2, cap2, ps' ++ [(l, m)] ++ [(x.args, y.args)]), ⟨rfl, ⟨congrArg (fun n => Value.slice (some ⟨g2, 0, none⟩) n cap2) (by simp), trivial⟩, ⟨⟨_, _, _, hF⟩, kWF, ?_, by simp only; rw [BG, BG]; simp only; omega⟩⟩, by simp only; rw [BG, BG, BG]; simp only [szL]; omega⟩
      simp only
      rw [CZ, CZ, hres, cmpL, hs2, DG]
     ·(refine AA (AK rfl (AF rfl (AD rfl (AG rfl (by assumption) ?_)))) <;> refine As rfl ?_ <;> (refine W_gtr rfl rfl (fun hc => ?_) (fun hc => ?_) <;> try omega))
      repeat first | refine nx rfl ?_ | refine nf rfl ?_
      have ex : x.args = [] := List.length_eq_zero_iff.1 (by omega)
      have ez : cmpF x y = 0 := by rw [hs2, ex]; cases y.args <;> rfl
      refine ⟨(gb, cap, ps' ++ [(l, m)]), ⟨rfl, ⟨congrArg (fun n => Value.slice (some ⟨gb, 0, none⟩) n cap) (by simp), trivial⟩, ⟨⟨_, _, _, hC⟩, kWC, ?_, by simp only; rw [BG]; simp only; omega⟩⟩, by simp only; rw [BG, BG]; simp only [szL]; omega⟩
      simp only
      rw [CZ, hres, cmpL_cons0 ez]
end Go.Proofs.YtfcgdbmoncnibaaGreatDoor
namespace Go.Proofs.YtfcgdbmoncnibaaGreatDoor
open Go.RowKit
set_option linter.unusedVariables false
variable {mk : Prop} [MK mk]
end Go.Proofs.YtfcgdbmoncnibaaGreatDoor
namespace Go.Proofs.YtfcgdbmoncnibaaGreatDoor
open Go.RowKit
set_option linter.unusedVariables false
variable {mk : Prop} [MK mk]
end Go.Proofs.YtfcgdbmoncnibaaGreatDoor
namespace Go.Proofs.YtfcgdbmoncnibaaGreatDoor
open Go.RowKit
set_option linter.unusedVariables false
variable {mk : Prop} [MK mk]
end Go.Proofs.YtfcgdbmoncnibaaGreatDoor
namespace Go.Proofs.YtfcgdbmoncnibaaGreatDoor
open Go.RowKit
set_option linter.unusedVariables false
variable {mk : Prop} [MK mk]
end Go.Proofs.YtfcgdbmoncnibaaGreatDoor
namespace Go.Proofs.YtfcgdbmoncnibaaGreatDoor
open Go.RowKit
set_option linter.unusedVariables false
theorem unm_keep {w w' w'' : World} (hu : ∀ b, w.heap.size ≤ b → Unm w' b) (k : Ext w' w'') : ∀ b, (fresh w b ∧ b < w'.heap.size) → Unm w'' b :=
 fun b hb => (hu b hb.1).eq (k.block b hb.2 (by simp))
theorem fT_eq {f : Fml} (h : okF f = true) : fT f = prF 0 f := by unfold fT; rw [if_pos h]
end Go.Proofs.YtfcgdbmoncnibaaGreatDoor
namespace Go.Proofs.YtfcgdbmoncnibaaGreatDoor
set_option linter.unusedVariables false
def BJ (s : List UInt8) : Nat := s.countP fun c => decide (c = 40)
def Bg (s : List UInt8) : Nat := s.countP fun c => decide (c = 41)
theorem B8 (s t : List UInt8) : BJ (s ++ t) = BJ s + BJ t := by simp [BJ]
theorem DC (s t : List UInt8) : Bg (s ++ t) = Bg s + Bg t := by simp [Bg]
theorem opens_cons (c : UInt8) (s : List UInt8) : BJ (c :: s) = (if c = 40 then 1 else 0) + BJ s := by
 unfold BJ; rw [List.countP_cons]; by_cases h : c = 40 <;> simp [h, Nat.add_comm]
theorem closes_cons (c : UInt8) (s : List UInt8) : Bg (c :: s) = (if c = 41 then 1 else 0) + Bg s := by
 unfold Bg; rw [List.countP_cons]; by_cases h : c = 41 <;> simp [h, Nat.add_comm]
def plainB (s : List UInt8) : Bool := s.all fun c => !decide (c = 40) && !decide (c = 41) && !decide (c = 10)
theorem plainB_app (s t : List UInt8) : plainB (s ++ t) = (plainB s && plainB t) := by simp [plainB]
theorem plain_name {c : UInt8} (h : CA c = true) : (!decide (c = 40) && !decide (c = 41) && !decide (c = 10)) = true := by
 have e : ∀ k : UInt8, CA k = false → c ≠ k := fun k hk e => by rw [e, hk] at h; cases h
 simp [e 40 (by decide), e 41 (by decide), e 10 (by decide)]
theorem plain_dig {c : UInt8} (h : A0 c = true) : (!decide (c = 40) && !decide (c = 41) && !decide (c = 10)) = true := plain_name (by simp [CA, h])
theorem plain_num (n : Int) : plainB (DJ n) = true := List.all_eq_true.2 fun c hc => plain_dig (digs_dig _ _ (Nat.le_refl _) c hc)
theorem plain_nm {nm : List UInt8} (h : BS nm = true) : plainB nm = true := List.all_eq_true.2 fun c hc => plain_name (List.all_eq_true.1 (Ba h).2.2.2.1 c hc)
theorem sgn_plain : (styL.all fun p => plainB p.2.sign) = true := by decide
theorem sign_plain {op : Int} {s : Sty} (h : BB op = some s) : plainB s.sign = true := by
 have : (op, s) ∈ styL := by
  unfold BB at h
  revert h
  have : ∀ l : List (Int × Sty), l.lookup op = some s → (op, s) ∈ l := by
   intro l
   induction l with
   | nil => intro h; cases h
   | cons p l ih =>
    intro h
    obtain ⟨a, b⟩ := p
    rw [List.lookup_cons] at h
    by_cases e : op = a
    ·subst e
     rw [beq_self_eq_true] at h
     cases h; exact List.mem_cons_self
    ·rw [show (op == a) = false by simpa using e] at h
     exact List.mem_cons_of_mem _ (ih h)
  exact this styL
 exact List.all_eq_true.1 sgn_plain _ this
theorem sgT_plain {op v b : Int} {nm : List UInt8} {k : Nat} (h : Bq op nm v b k = true) : plainB (sgT op nm v b) = true := by
 obtain ⟨s, hs, _, _, _, _, _, _, hn, _⟩ := node_parts h
 have h1 := sign_plain hs
 rw [← styD_of hs] at h1
 unfold sgT
 split
 ·rename_i e
  have h2 := plain_nm (hn e)
  split
  ·exact h2
  ·simp only [plainB_app, h2, plain_num]; rfl
 split
 ·simp only [plainB_app, h1, plain_num]; rfl
 split
 ·split <;> rfl
 split
 ·split
  ·simp only [plainB_app, h1]; rfl
  ·simp only [plainB_app, h1, plain_num]; rfl
 ·exact h1
theorem DE {s : List UInt8} (h : plainB s = true) : BJ s = 0 ∧ Bg s = 0 := by
 constructor
 ·unfold BJ; rw [List.countP_eq_zero]
  intro c hc
  have := List.all_eq_true.1 h c hc
  simp only [Bool.and_eq_true, Bool.not_eq_true', decide_eq_false_iff_not] at this
  simpa using this.1.1
 ·unfold Bg; rw [List.countP_eq_zero]
  intro c hc
  have := List.all_eq_true.1 h c hc
  simp only [Bool.and_eq_true, Bool.not_eq_true', decide_eq_false_iff_not] at this
  simpa using this.1.2
def Bal (s : List UInt8) : Prop := BJ s = Bg s ∧ ∀ k, Bg (s.take k) ≤ BJ (s.take k)
theorem Bal.nil : Bal [] := ⟨rfl, fun k => by simp [BJ, Bg]⟩
theorem Bal.app {s t : List UInt8} (h : Bal s) (h' : Bal t) : Bal (s ++ t) := by
 refine ⟨by rw [B8, DC, h.1, h'.1], fun k => ?_⟩
 rw [List.take_append, B8, DC]
 have := h.2 k
 have := h'.2 (k - s.length)
 omega
theorem Bal.plain {s : List UInt8} (h : plainB s = true) : Bal s := by
 refine ⟨by rw [(DE h).1, (DE h).2], fun k => ?_⟩
 have : plainB (s.take k) = true := List.all_eq_true.2 fun c hc => List.all_eq_true.1 h c (List.mem_of_mem_take hc)
 rw [(DE this).2]; omega
theorem Bal.wrap {s : List UInt8} (h : Bal s) (b : Bool) : Bal (wrapT b s) := by
 cases b with
 | false => exact h
 | true =>
  show Bal (40 :: (s ++ [41]))
  refine ⟨?_, fun k => ?_⟩
  ·rw [opens_cons, closes_cons, B8, DC, h.1]
   simp [BJ, Bg]; omega
  ·cases k with
   | zero => simp [BJ, Bg]
   | succ k =>
    rw [List.take_succ_cons, opens_cons, closes_cons, List.take_append, B8, DC]
    have := h.2 k
    have h2 : Bg (([41] : List UInt8).take (k - s.length)) ≤ 1 := by
     unfold Bg
     refine Nat.le_trans List.countP_le_length ?_
     rw [List.length_take]; simp; omega
    rw [if_pos rfl, if_neg (by decide)]
    omega
theorem opens_wrap (b : Bool) (s : List UInt8) : BJ (wrapT b s) = (if b then 1 else 0) + BJ s := by
 cases b with
 | false => simp [wrapT]
 | true =>
  show BJ (40 :: (s ++ [41])) = _
  rw [opens_cons, B8]; simp [BJ]
section
variable {op v b : Int} {nm : List UInt8} {k : Nat} (h : Bq op nm v b k = true)
include h
theorem bal_R (next : Nat) : ∀ l : List Fml, (∀ a ∈ l, Bal (prF next a)) → Bal (prR next (sgT op nm v b) l)
 | [], _ => Bal.nil
 | a :: l, hl => by
  simp only [prR]
  exact (Bal.plain (sgT_plain h)).app ((hl a (by simp)).app (bal_R next l fun c hc => hl c (by simp [hc])))
theorem bal_A (first next : Nat) : ∀ l : List Fml, (∀ a ∈ l, ∀ n, Bal (prF n a)) → Bal (prA first next (sgT op nm v b) l)
 | [], _ => Bal.plain (sgT_plain h)
 | a :: l, hl => by
  simp only [prA]
  refine Bal.app ?_ ((hl a (by simp) _).app (bal_R h next l fun c hc => hl c (by simp [hc]) _))
  split
  ·exact Bal.plain (sgT_plain h)
  ·exact Bal.nil
theorem opens_R (next : Nat) : ∀ l : List Fml, (∀ a ∈ l, BJ (prF next a) = oF next a) → BJ (prR next (sgT op nm v b) l) = oR next l
 | [], _ => rfl
 | a :: l, hl => by
  simp only [prR, oR, B8, (DE (sgT_plain h)).1, hl a (by simp), opens_R next l fun c hc => hl c (by simp [hc])]
  omega
theorem opens_A (first next : Nat) : ∀ l : List Fml, (∀ a ∈ l, ∀ n, BJ (prF n a) = oF n a) → BJ (prA first next (sgT op nm v b) l) = oA first next l
 | [], _ => (DE (sgT_plain h)).1
 | a :: l, hl => by
  simp only [prA, oA, B8, hl a (by simp), opens_R h next l fun c hc => hl c (by simp [hc]) _]
  split
  ·rw [(DE (sgT_plain h)).1]; omega
  ·simp [BJ]
end
theorem par_F : ∀ (m : Nat) (f : Fml), SizeOf.sizeOf f ≤ m → okF f = true → ∀ n, Bal (prF n f) ∧ BJ (prF n f) = oF n f
 | 0, f, hm, _ => by cases f; simp at hm
 | m + 1, .mk op nm v b args, hm, hok => by
  simp only [okF, Bool.and_eq_true] at hok
  have hl : ∀ a ∈ args, ∀ n, Bal (prF n a) ∧ BJ (prF n a) = oF n a := fun a ha => par_F m a (by have := List.sizeOf_lt_of_mem ha; simp at hm; omega) (okL_mem hok.2 a ha)
  intro n
  simp only [prF, oF]
  refine ⟨(bal_A hok.1 _ _ args fun a ha n => (hl a ha n).1).wrap _, ?_⟩
  rw [opens_wrap, opens_A hok.1 _ _ args fun a ha n => (hl a ha n).2]
  by_cases h : (BW op).level < n <;> simp [h]
theorem fml_par {f : Fml} (h : okF f = true) : Bal (prF 0 f) ∧ BJ (prF 0 f) = oF 0 f := par_F _ f (Nat.le_refl _) h 0
theorem reach_cnt {t : List UInt8} {a b : Nat} {ts tsb : List Tok} (h : Reach1 t a ts b tsb) : cnt tsb + BJ (t.drop b) ≤ cnt ts + BJ (t.drop a) := by
 induction h with
 | refl => exact Nat.le_refl _
 | @step a a1 b ts ts1 tsb hl hs hr ih =>
  have h1 := step_on hl hs
  have h2 := step_le hl hs
  have e : t.drop a = (t.take a1).drop a ++ t.drop a1 := by
   rw [← List.drop_append_of_le_length (by simp; omega), List.take_append_drop]
  have e2 := congrArg BJ e
  rw [B8] at e2
  rcases step_shape hs with rfl | ⟨k, rfl⟩
  ·omega
  ·have h3 : cnt (ts ++ [⟨k, (t.take a1).drop a, a⟩]) ≤ cnt ts + BJ ((t.take a1).drop a) := by
    unfold cnt
    rw [List.countP_append]
    refine Nat.add_le_add_left ?_ _
    by_cases hp : (t.take a1).drop a = [40]
    ·simp [hp, BJ]
    ·simp [hp]
   omega
theorem few_parens {t : List UInt8} {f : Fml} (h : PRes .formula t (.ok f)) : oF 0 f ≤ BJ t := by
 obtain ⟨A, hm, ⟨_, h2⟩, _⟩ := parsed_phi h
 obtain ⟨_, hr⟩ := lexM_ok hm
 have h3 := reach_cnt hr
 simp only [List.drop_zero, List.drop_length] at h3
 have h4 : cnt ([] : List Tok) = 0 := rfl
 have h5 : BJ [] = 0 := rfl
 omega
theorem C6 {s : List UInt8} {k : Nat} {c : UInt8} (h : s[k]? = some c) : s.take (k + 1) = s.take k ++ [c] := by rw [List.take_add_one, h]; rfl
theorem closing_in {s : List UInt8} (hb : Bal s) {i : Nat} (hi : s[i]? = some 40) : ∃ k, i < k ∧ s[k]? = some 41 ∧ BJ ((s.take (k + 1)).drop i) = Bg ((s.take (k + 1)).drop i) := by
 have hlt := (List.getElem?_eq_some_iff.1 hi).1
 have htot : ∀ k, i ≤ k → k ≤ s.length → BJ (s.take k) = BJ (s.take i) + BJ ((s.take k).drop i) ∧ Bg (s.take k) = Bg (s.take i) + Bg ((s.take k).drop i) := by
  intro k h1 h2
  have e : s.take k = s.take i ++ (s.take k).drop i := by
   have := List.take_append_drop i (s.take k)
   rw [List.take_take, Nat.min_eq_left h1] at this
   exact this.symm
  constructor
  ·rw [e, B8, ← e]
  ·rw [e, DC, ← e]
 have hend := htot s.length (by omega) (Nat.le_refl _)
 rw [List.take_length] at hend
 have hi0 := hb.2 i
 have h0 := hb.1
 have hone : (s.take (i + 1)).drop i = [40] := by
  rw [C6 hi, List.drop_append_of_le_length (by simp; omega)]
  have : (s.take i).drop i = [] := by simp
  rw [this]; rfl
 have key : ∀ d k, i < k → k + d = s.length → Bg ((s.take k).drop i) < BJ ((s.take k).drop i) → ∃ j, i < j ∧ s[j]? = some 41 ∧ BJ ((s.take (j + 1)).drop i) = Bg ((s.take (j + 1)).drop i) := by
  intro d
  induction d with
  | zero =>
   intro k h1 h2 h3
   have hk : k = s.length := by omega
   subst hk
   rw [List.take_length] at h3
   omega
  | succ d ih =>
   intro k h1 h2 h3
   obtain ⟨c, hc⟩ : ∃ c, s[k]? = some c := ⟨_, List.getElem?_eq_getElem (by omega)⟩
   have e : (s.take (k + 1)).drop i = (s.take k).drop i ++ [c] := by
    rw [C6 hc, List.drop_append_of_le_length (by simp; omega)]
   have eo := congrArg BJ e
   have ec := congrArg Bg e
   rw [B8] at eo
   rw [DC] at ec
   by_cases h41 : c = 41
   ·subst h41
    have q1 : BJ [41] = 0 := rfl
    have q2 : Bg [41] = 1 := rfl
    by_cases hz : Bg ((s.take (k + 1)).drop i) < BJ ((s.take (k + 1)).drop i)
    ·exact ih (k + 1) (by omega) (by omega) hz
    ·exact ⟨k, h1, hc, by omega⟩
   ·have q2 : Bg [c] = 0 := by simp [Bg, h41]
    exact ih (k + 1) (by omega) (by omega) (by omega)
 refine key (s.length - (i + 1)) (i + 1) (by omega) (by omega) ?_
 rw [hone]; decide
def gone (s : List UInt8) (i k : Nat) : List UInt8 := s.take i ++ [32] ++ (s.take k).drop (i + 1) ++ [32] ++ s.drop (k + 1)
theorem gone_opens {s : List UInt8} {i k : Nat} (hi : s[i]? = some 40) (hk : s[k]? = some 41) (h : i < k) : BJ (gone s i k) < BJ s := by
 have hl := (List.getElem?_eq_some_iff.1 hk).1
 have e1 : s.take (i + 1) = s.take i ++ [40] := C6 hi
 have e2 : s.take (k + 1) = s.take k ++ [41] := C6 hk
 have e3 : s.take k = s.take (i + 1) ++ (s.take k).drop (i + 1) := by
  have := List.take_append_drop (i + 1) (s.take k)
  rw [List.take_take, Nat.min_eq_left (by omega)] at this
  exact this.symm
 have e4 := (List.take_append_drop (k + 1) s).symm
 have o1 := congrArg BJ e1
 have o2 := congrArg BJ e2
 have o3 := congrArg BJ e3
 have o4 := congrArg BJ e4
 simp only [B8] at o1 o2 o3 o4
 have q1 : BJ [40] = 1 := rfl
 have q2 : BJ [41] = 0 := rfl
 have q3 : BJ [32] = 0 := rfl
 unfold gone
 simp only [B8]
 omega
theorem paren_law {f : Fml} (hok : okF f = true) {i k : Nat} (hi : (prF 0 f)[i]? = some 40) (hk : (prF 0 f)[k]? = some 41) (h : i < k) : ¬ PRes .formula (gone (prF 0 f) i k) (.ok f) := fun hp => by
 have h1 := few_parens hp
 have h2 := gone_opens hi hk h
 have h3 := (fml_par hok).2
 omega
end Go.Proofs.YtfcgdbmoncnibaaGreatDoor
namespace Go.Proofs.YtfcgdbmoncnibaaGreatDoor
open Go.RowKit
set_option linter.unusedVariables false
def ocI (s : List UInt8) (i k : Nat) : Int := (BJ ((s.take k).drop i) : Int) - (Bg ((s.take k).drop i) : Int)
theorem ocI_self (s : List UInt8) (i : Nat) : ocI s i i = 0 := by
 have : (s.take i).drop i = [] := by simp
 unfold ocI; rw [this]; rfl
theorem ocI_succ {s : List UInt8} {i k : Nat} {c : UInt8} (hik : i ≤ k) (hc : s[k]? = some c) : ocI s i (k + 1) = ocI s i k + (if c = 40 then 1 else 0) - (if c = 41 then 1 else 0) := by
 have hl := (List.getElem?_eq_some_iff.1 hc).1
 have e : (s.take (k + 1)).drop i = (s.take k).drop i ++ [c] := by
  rw [C6 hc, List.drop_append_of_le_length (by simp; omega)]
 unfold ocI
 rw [e, B8, DC]
 have e1 : BJ [c] = if c = 40 then 1 else 0 := by rw [opens_cons]; simp [BJ]
 have e2 : Bg [c] = if c = 41 then 1 else 0 := by rw [closes_cons]; simp [Bg]
 rw [e1, e2]
 by_cases h1 : c = 40 <;> by_cases h2 : c = 41 <;> simp [h1, h2] <;> omega
theorem ocI_le {s : List UInt8} {i k : Nat} (hk : k ≤ s.length) : -(s.length : Int) ≤ ocI s i k ∧ ocI s i k ≤ s.length := by
 have h1 : BJ ((s.take k).drop i) ≤ s.length := by
  unfold BJ
  refine Nat.le_trans List.countP_le_length ?_
  simp; omega
 have h2 : Bg ((s.take k).drop i) ≤ s.length := by
  unfold Bg
  refine Nat.le_trans List.countP_le_length ?_
  simp; omega
 unfold ocI; omega
theorem closing_ok (w : World) (s : List UInt8) (i : Nat) (hb : Bal s) (hi : s[i]? = some 40) (hl : s.length ≤ 1000000) : Fn Tryz.prog 29 [AM s, .int .i64 (i : Int)] w fun u w' => ∃ k : Nat, u = .int .i64 (k : Int) ∧ i < k ∧ s[k]? = some 41 ∧ w' = w := by
 obtain ⟨z, hz1, hz2, hz3⟩ := closing_in hb hi
 have hz4 : ocI s i (z + 1) = 0 := by unfold ocI; omega
 have hzl := (List.getElem?_eq_some_iff.1 hz2).1
 have hi1 := ocI_succ (Nat.le_refl i) hi
 rw [ocI_self] at hi1
 have hi2 : ocI s i (i + 1) = 1 := hi1
 refine Ad Tryz.func29 rfl Tryz.ntmps29 (Nat.le_of_ble_eq_true rfl) (by kernel_rfl) ?_
 repeat refine nx rfl ?_
 refine AA (AB (AH rfl ?_))
 repeat refine nx rfl ?_
 refine AA (AB (AH rfl ?_))
 repeat refine nx rfl ?_
 refine AA (AH rfl (AB (AH rfl ?_)))
 repeat refine nx rfl ?_
 refine BY (α := Nat) (fun k => [(0, AM s), (5, .int .i64 (ocI s i k)), (6, .int .i64 (k : Int))]) (fun k W => i ≤ k ∧ k ≤ s.length ∧ w = W ∧ ∀ j, i < j → j < k → s[j]? = some 41 → ocI s i (j + 1) ≠ 0) (fun k => s.length - k) i ⟨rfl, congrArg (Value.int .i64) (ocI_self s i).symm, rfl, trivial⟩ ⟨Nat.le_refl _, by have := (List.getElem?_eq_some_iff.1 hi).1; omega, rfl, fun j h1 h2 => by omega⟩ ?_
 rintro k _ f1 ⟨hik, hk, rfl, hno⟩
 repeat refine nx rfl ?_
 by_cases hlt : k < s.length
 ·refine AA (AH rfl (AY rfl (Bb rfl (BM rfl rfl (by omega) ?_))))
  repeat refine nx rfl ?_
  obtain ⟨c, hcx⟩ : ∃ c, s[k]? = some c := ⟨_, List.getElem?_eq_getElem hlt⟩
  have hs := ocI_succ hik hcx
  have hb1 := @ocI_le s i k (by omega)
  generalize ocI s i k = a at hs hb1
  (refine AA (AY rfl (AH rfl (Be rfl rfl (by assumption) ?_))) <;> (refine By rfl rfl (fun hc => ?_) (fun hc => ?_) <;> try omega) <;> refine AI ?_)
  ·have hc40 : c = 40 := UInt8.toNat_inj.1 (show c.toNat = 40 by have h0 : (c.toNat : Int) = 40 := (by assumption); omega)
   subst hc40
   have hs1 : ocI s i (k + 1) = a + 1 := by rw [hs]; simp
   have hno2 : ∀ j, i < j → j < k + 1 → s[j]? = some 41 → ocI s i (j + 1) ≠ 0 := by
    intro j h1 h2 h3
    by_cases hjk : j = k
    ·subst hjk; rw [hcx] at h3; cases h3
    ·exact hno j h1 (by omega) h3
   repeat refine nx rfl ?_
   (refine AA (AH rfl (BR rfl rfl (by first | exact Al (by omega) (by omega) | exact At (by omega) (by omega) | exact Am (by omega) (by omega)) ?_)) <;> refine AB (AH rfl ?_))
   repeat refine nx rfl ?_
   (refine AA (AY rfl (AH rfl (Be rfl rfl (by assumption) ?_))) <;> refine AL rfl rfl (by omega) ?_)
   repeat first | refine nx rfl ?_ | refine nf rfl ?_
   (refine AA (AH rfl (BR rfl rfl (by first | exact Al (by omega) (by omega) | exact At (by omega) (by omega) | exact Am (by omega) (by omega)) ?_)) <;> refine AB (AH rfl ?_))
   repeat refine nx rfl ?_
   refine ⟨k + 1, ⟨rfl, ⟨rfl, ?_, ?_, trivial⟩, ⟨by omega, hlt, rfl, hno2⟩⟩, by omega⟩
   ·exact congrArg (Value.int .i64) (by omega)
   ·show Value.int .i64 ((k : Int) + 1) = _
    rw [Int.natCast_add]; rfl
  ·have hc40 : c ≠ 40 := fun e => by subst e; exact absurd rfl (by assumption)
   repeat first | refine nx rfl ?_ | refine nf rfl ?_
   (refine AA (AY rfl (AH rfl (Be rfl rfl (by assumption) ?_))) <;> (refine By rfl rfl (fun hc => ?_) (fun hc => ?_) <;> try omega) <;> refine AI ?_)
   ·have hc41 : c = 41 := UInt8.toNat_inj.1 (show c.toNat = 41 by have h0 : (c.toNat : Int) = 41 := (by assumption); omega)
    subst hc41
    have hs1 : ocI s i (k + 1) = a - 1 := by rw [hs]; simp
    have hik2 : i < k := by
     by_cases h : i = k
     ·subst h; rw [hcx] at hi; cases hi
     ·omega
    repeat refine nx rfl ?_
    (refine AA (AH rfl (W_sub rfl rfl (by first | exact Al (by omega) (by omega) | exact At (by omega) (by omega) | exact Am (by omega) (by omega)) ?_)) <;> refine AB (AH rfl ?_))
    repeat refine nx rfl ?_
    (refine AA (AH rfl ?_) <;> (refine By rfl rfl (fun hc => ?_) (fun hc => ?_) <;> try omega))
    ·repeat refine nx rfl ?_
     refine AA (AH rfl (AB (AH rfl ?_)))
     repeat refine nx rfl ?_
     exact AP rfl ⟨k, rfl, hik2, hcx, rfl⟩
    ·have hno2 : ∀ j, i < j → j < k + 1 → s[j]? = some 41 → ocI s i (j + 1) ≠ 0 := by
      intro j h1 h2 h3
      by_cases hjk : j = k
      ·subst hjk; rw [hs1]; assumption
      ·exact hno j h1 (by omega) h3
     repeat first | refine nx rfl ?_ | refine nf rfl ?_
     (refine AA (AH rfl (BR rfl rfl (by first | exact Al (by omega) (by omega) | exact At (by omega) (by omega) | exact Am (by omega) (by omega)) ?_)) <;> refine AB (AH rfl ?_))
     repeat refine nx rfl ?_
     refine ⟨k + 1, ⟨rfl, ⟨rfl, ?_, ?_, trivial⟩, ⟨by omega, hlt, rfl, hno2⟩⟩, by omega⟩
     ·exact congrArg (Value.int .i64) (by omega)
     ·show Value.int .i64 ((k : Int) + 1) = _
      rw [Int.natCast_add]; rfl
   ·have hc41 : c ≠ 41 := fun e => by subst e; exact absurd rfl (by assumption)
    have hs1 : ocI s i (k + 1) = a := by rw [hs, if_neg hc40, if_neg hc41]; omega
    have hno2 : ∀ j, i < j → j < k + 1 → s[j]? = some 41 → ocI s i (j + 1) ≠ 0 := by
     intro j h1 h2 h3
     by_cases hjk : j = k
     ·subst hjk; rw [hcx] at h3; cases h3; exact absurd rfl hc41
     ·exact hno j h1 (by omega) h3
    repeat first | refine nx rfl ?_ | refine nf rfl ?_
    (refine AA (AH rfl (BR rfl rfl (by first | exact Al (by omega) (by omega) | exact At (by omega) (by omega) | exact Am (by omega) (by omega)) ?_)) <;> refine AB (AH rfl ?_))
    repeat refine nx rfl ?_
    refine ⟨k + 1, ⟨rfl, ⟨rfl, ?_, ?_, trivial⟩, ⟨by omega, hlt, rfl, hno2⟩⟩, by omega⟩
    ·exact congrArg (Value.int .i64) (by omega)
    ·show Value.int .i64 ((k : Int) + 1) = _
     rw [Int.natCast_add]; rfl
 ·exact absurd hz4 (hno z hz1 (by omega) hz2)
theorem splice_all {z cs : List Value} (h : cs.length = z.length) : splice z 0 cs = cs := by
 simp [splice, h]
set_option maxHeartbeats 1600000 in
theorem parens_ok (w : World) (v : Value) (f : Fml) (hf : FAt BH w v f) (hG : GP w) (hF : GF w) :
  Fn Tryz.prog 7 [v] w fun u w' => u = .bool true ∧ Ext w w' := by
 obtain ⟨cf, rfl, hcf, _⟩ := hf.cells
 refine Ad Tryz.func7 rfl Tryz.ntmps7 (Nat.le_of_ble_eq_true rfl) (by kernel_rfl) ?_
 repeat refine nx rfl ?_
 (refine AA ?_; refine Bs (L := cf) rfl (fun w1 n1 => ?_))
 have k1 := n1.keep
 have b1 := n1.blk
 refine AB (AC rfl ?_)
 repeat refine nx rfl ?_
 refine AA ?_
 refine AS (head_ok w1 (hG.ext k1) (hF.ext k1)) rfl ?_
 rintro _ w2 ⟨rfl, k2⟩
 refine AB (AC rfl ?_)
 repeat refine nx rfl ?_
 refine AA (AW rfl (b1.keep k2 (by simp)) hcf ?_)
 refine AS (rsmall_ok w2 _ f 200 (by omega) (hf.ext (k1.trans k2))) rfl ?_
 rintro _ w3 ⟨rfl, k3⟩
 have k13 := k2.trans k3
 by_cases hf2 : szF f ≤ 200
 case neg =>
  rw [decide_eq_false hf2]
  refine BL rfl (AC rfl (AJ rfl (AJ rfl (AJ rfl (AO rfl (AC rfl ?_))))))
  repeat refine nx rfl ?_
  refine AA (AC rfl (AB (AC rfl ?_)))
  repeat refine nx rfl ?_
  exact AP rfl ⟨rfl, k1.trans k13⟩
 rw [decide_eq_true hf2]
 refine BL rfl (AC rfl ?_)
 refine AE rfl (AW rfl (b1.keep k13 (by simp)) hcf ?_)
 refine AE rfl (AS (printable_ok _ f (Nat.le_refl _) (by omega) w3 _ (hf.ext (k1.trans k13))) rfl ?_)
 rintro _ w4 ⟨rfl, k4⟩
 have k14 := k13.trans k4
 cases hok : okF f with
 | false =>
  refine AE rfl (BL rfl (AQ rfl (AC rfl ?_)))
  repeat refine nx rfl ?_
  refine AA (AC rfl (AB (AC rfl ?_)))
  repeat refine nx rfl ?_
  exact AP rfl ⟨rfl, k1.trans k14⟩
 | true =>
 refine AE rfl (BL rfl (AQ rfl (AC rfl ?_)))
 repeat first | refine nx rfl ?_ | refine nf rfl ?_
 have ht := fT_eq hok
 have hne := fml_ne hok
 have hbal := (fml_par hok).1
 have hlaw := @paren_law f hok
 have hlen := fT_len f
 refine AA (AW rfl (b1.keep k14 (by simp)) hcf ?_)
 refine AS (prtF_ok w4 _ f (hf.ext (k1.trans k14)) (hG.ext (k1.trans k14)) (by omega)) rfl ?_
 rintro _ w5 ⟨rfl, k5⟩
 rw [ht] at hlen ⊢
 clear ht
 generalize prF 0 f = tx at hne hbal hlaw hlen
 have k15 := k14.trans k5
 refine AB (AY rfl ?_)
 repeat refine nx rfl ?_
 refine AA (AB (AH rfl ?_))
 repeat refine nx rfl ?_
 refine AA (AB (AH rfl ?_))
 repeat refine nx rfl ?_
 refine BY (α := Nat × Nat) (fun x => [(1, pt w.heap.size), (3, .bool true), (4, AM tx), (5, .int .i64 (x.2 : Int)), (6, .int .i64 (x.1 : Int))]) (fun x W => x.1 ≤ tx.length ∧ x.2 ≤ 40 ∧ Ext w1 W) (fun x => tx.length - x.1) (0, 0) ⟨rfl, rfl, rfl, rfl, rfl, trivial⟩ ⟨by simp, by simp, k15⟩ ?_
 clear k15 k14 k13 k2 k3 k4 k5
 rintro ⟨i, n⟩ w6 f6 ⟨hi, hn, k6⟩
 simp only at hi hn ⊢
 repeat refine nx rfl ?_
 have kw6 := k1.trans k6
 by_cases hlt : i < tx.length ∧ n < 40
 ·obtain ⟨hlt, hn4⟩ := hlt
  refine AA (AH rfl (AY rfl (Bb rfl (BM rfl rfl (by omega) (AC rfl (AE rfl (AH rfl (AE rfl (BM rfl rfl (by omega) (AO rfl (AC rfl ?_)))))))))))
  repeat refine nx rfl ?_
  obtain ⟨c, hcx⟩ : ∃ c, tx[i]? = some c := ⟨_, List.getElem?_eq_getElem hlt⟩
  (refine AA (AY rfl (AH rfl (Be rfl rfl (by assumption) ?_))) <;> (refine W_neq rfl rfl (fun hc => ?_) (fun hc => ?_) <;> try omega))
  ·repeat refine nx rfl ?_
   (refine AA (AH rfl (BR rfl rfl (by first | exact Al (by omega) (by omega) | exact At (by omega) (by omega) | exact Am (by omega) (by omega)) ?_)) <;> refine AB (AH rfl ?_))
   repeat refine nx rfl ?_
   refine ⟨(i + 1, n), ⟨rfl, ⟨rfl, rfl, rfl, rfl, ?_, trivial⟩, ⟨hlt, hn, k6⟩⟩, by simp; omega⟩
   show Value.int .i64 ((i : Int) + 1) = _
   rw [Int.natCast_add]; rfl
  ·have hc40 : c = 40 := UInt8.toNat_inj.1 (show c.toNat = 40 by have h0 : (c.toNat : Int) = 40 := (by assumption); omega)
   subst hc40
   repeat first | refine nx rfl ?_ | refine nf rfl ?_
   (refine AA (AH rfl (BR rfl rfl (by first | exact Al (by omega) (by omega) | exact At (by omega) (by omega) | exact Am (by omega) (by omega)) ?_)) <;> refine AB (AH rfl ?_))
   repeat refine nx rfl ?_
   refine AA (AY rfl (AH rfl ?_))
   refine AS (closing_ok w6 tx i hbal hcx (by omega)) rfl ?_
   rintro _ _ ⟨k, rfl, hik, hkx, rfl⟩
   have hkl := (List.getElem?_eq_some_iff.1 hkx).1
   have hgone := hlaw hcx hkx hik
   refine AB (AH rfl ?_)
   repeat refine nx rfl ?_
   refine AA (AH rfl (BN rfl rfl (by omega) ?_))
   repeat first | refine nx rfl ?_ | refine nf rfl ?_
   have kw6 := k1.trans k6
   refine CV (α := Nat × Out Fml × List Value) (fun x => [(1, pt w.heap.size), (3, .bool true), (4, AM tx), (5, .int .i64 ((n : Int) + 1)), (6, .int .i64 (i : Int)), (8, pt x.1), (9, .int .i64 x.2.1.errno)]) (fun x W => Ext w1 W ∧ PRes .formula (gone tx i k) x.2.1 ∧ x.2.2.length = 5 ∧ Blk W x.1 24 x.2.2 ∧ ∃ okg : Nat → Prop, FAt okg W (.agg x.2.2.toArray) (x.2.1.val zeroF) ∧ ∀ b, okg b → Unm W b) ?_ ?_
   ·refine A7 (.read 0 (.read 1 (.read 2 (.read 3 (.read 4 (.read 5 (.read 6 (.read 7 (.read 8 (.read 9 (.read 10 (.read 11 (.read 12 (.read 13 (.read 14 (.read 15 (.alt 16 (.read 17 (.read 18 (.read 19 (.read 20 (.alt 21 (.alt 22 (.read 23 (.read 24 .done)) .stop) .stop))))) (.alt 21 (.alt 16 (.read 17 (.read 18 (.read 19 (.read 20 (.alt 22 (.read 23 (.read 24 .done)) .stop))))) .stop) .stop)))))))))))))))))) BA (by kernel_rfl) (fun wd kd ed => ⟨Ext wd, ?_, ?_⟩)
    ·exact Ext.refl _
    have hg := hG.ext (kw6.trans kd)
    have kd1 := k6.trans kd
    have hl1 : (tx.take i).length ≤ tx.length := by simp; omega
    have hl2 : ((tx.take k).drop (i + 1)).length ≤ tx.length := by simp; omega
    refine D_R rfl rfl (fun W hW => AY rfl Z3) (D_R rfl rfl (fun W hW => AH rfl Z3) (D_R rfl rfl (fun W hW => W_sslice_h rfl rfl (by omega) Z3) ?_))
    refine D_R rfl rfl (fun W hW => by refine Cn rfl rfl (by simp only [List.length_cons, List.length_nil]; omega) ?_; exact AI ⟨rfl, rfl, rfl⟩) ?_
    (refine D_R rfl rfl (fun W hW => AY rfl Z3) (D_R rfl rfl (fun W hW => AH rfl Z3) ?_) <;> (apply D_R rfl rfl; (intro W hW; refine BR rfl rfl (by first | exact Al (by omega) (by omega) | exact At (by omega) (by omega) | exact Am (by omega) (by omega)) ?_; exact Z3)) <;> refine D_R rfl rfl (fun W hW => AH rfl Z3) ?_)
    refine D_R rfl rfl (fun W hW => by refine W_sslice_lh (l := i + 1) rfl rfl rfl (by omega) (by omega) ?_; exact AI ⟨rfl, rfl, rfl⟩) ?_
    refine D_R rfl rfl (fun W hW => by refine Cn rfl rfl (by simp only [List.length_append, List.length_cons, List.length_nil]; omega) ?_; exact AI ⟨rfl, rfl, rfl⟩) ?_
    refine D_R rfl rfl (fun W hW => by refine Cn rfl rfl (by simp only [List.length_append, List.length_cons, List.length_nil]; omega) ?_; exact AI ⟨rfl, rfl, rfl⟩) ?_
    (refine D_R rfl rfl (fun W hW => AY rfl Z3) (D_R rfl rfl (fun W hW => AH rfl Z3) ?_) <;> (apply D_R rfl rfl; (intro W hW; refine BR rfl rfl (by first | exact Al (by omega) (by omega) | exact At (by omega) (by omega) | exact Am (by omega) (by omega)) ?_; exact Z3)))
    refine D_R rfl rfl (fun W hW => by refine W_sslice_l (l := k + 1) rfl rfl (by omega) ?_; exact AI ⟨rfl, rfl, rfl⟩) ?_
    refine D_R rfl rfl (fun W hW => by refine Cn rfl rfl (by simp only [List.length_append, List.length_cons, List.length_nil, List.length_drop, List.length_take]; omega) ?_; exact AI ⟨rfl, rfl, rfl⟩) ?_
    refine D_A rfl ?_ ?_
    ·refine AS (parseU_F wd (gone tx i k) hg.gk) rfl ?_
     rintro _ x1 ⟨o, c, pF, rfl, j1, fF, uF⟩
     refine AI ⟨Ext wd, fun _ e => e, j1, ?_⟩
     refine D_R rfl rfl (fun W hW => Bn rfl Z3) (D_R rfl rfl (fun W hW => Af rfl rfl Z3) (D_R rfl rfl (fun W hW => Af rfl rfl Z3) (D_R rfl rfl (fun W hW => Af rfl rfl Z3) ?_)))
     refine D_E rfl ?_
     refine Aw (fun x2 m2 => ?_)
     have hm2 : Blk x2 x1.heap.size 24 [.int .i64 0, AM [], .int .i64 0, .int .i64 0, .slice none 0 0] := m2.blk
     refine AI ⟨Ext wd, fun _ e => e, j1.trans m2.keep, ?_⟩
     refine D_E rfl ?_
     refine Aa (cs := c) rfl rfl (fmlR.len fF) (fmlR.one fF) hm2 (Nat.le_refl 5) (fun x3 p3 => ?_)
     have hb3 : Blk x3 x1.heap.size 24 c := by
      have := p3.blk
      rw [splice_all (fmlR.len fF)] at this
      exact this
     have k13 : Ext x1 x3 := m2.keep.keep p3.keep (by simp)
     refine AI ⟨Ext wd, fun _ e => e, j1.trans k13, ?_⟩
     refine D_R rfl rfl (fun W hW => AB (AH rfl Z3)) (D_R rfl rfl (fun W hW => AB (AH rfl Z3)) (Ay ?_))
     repeat refine nx rfl ?_
     exact Ar (x1.heap.size, o, c) ⟨rfl, rfl, rfl, rfl, rfl, rfl, rfl, trivial⟩ ⟨kd1.trans (j1.trans k13), pF, fmlR.len fF, hb3, _, (fmlR.lt fF).2.ext k13, unm_keep uF k13⟩
    refine D_E rfl ?_
    refine Aw (fun x1 m1 => ?_)
    have hm1 : Blk x1 wd.heap.size 24 [.int .i64 0, AM [], .int .i64 0, .int .i64 0, .slice none 0 0] := m1.blk
    refine AI ⟨Ext wd, fun _ e => e, m1.keep, ?_⟩
    refine D_E rfl ?_
    refine AS (parseU_F x1 (gone tx i k) (hg.ext m1.keep).gk) rfl ?_
    rintro _ x2 ⟨o, c, pF, rfl, j2, fF, uF⟩
    refine AI ⟨Ext wd, fun _ e => e, m1.keep.trans j2, ?_⟩
    refine D_R rfl rfl (fun W hW => Bn rfl Z3) (D_R rfl rfl (fun W hW => Af rfl rfl Z3) (D_R rfl rfl (fun W hW => Af rfl rfl Z3) (D_R rfl rfl (fun W hW => Af rfl rfl Z3) ?_)))
    refine D_E rfl ?_
    refine Aa (cs := c) rfl rfl (fmlR.len fF) (fmlR.one fF) (hm1.keep j2 (by simp)) (Nat.le_refl 5) (fun x3 p3 => ?_)
    have hb3 : Blk x3 wd.heap.size 24 c := by
     have := p3.blk
     rw [splice_all (fmlR.len fF)] at this
     exact this
    have k3 : Ext wd x3 := (m1.keep.trans j2).keep p3.keep (by simp)
    refine AI ⟨Ext wd, fun _ e => e, k3, ?_⟩
    refine D_R rfl rfl (fun W hW => AB (AH rfl Z3)) (D_R rfl rfl (fun W hW => AB (AH rfl Z3)) (Ay ?_))
    repeat refine nx rfl ?_
    have hsz := m1.size
    refine Ar (wd.heap.size, o, c) ⟨rfl, rfl, rfl, rfl, rfl, rfl, rfl, trivial⟩ ⟨kd1.trans k3, pF, fmlR.len fF, hb3, _, (fmlR.lt fF).2.keep p3.keep (fun b hb => ?_), fun b hb => (uF b hb.1).eq (p3.keep.block b hb.2 ?_)⟩
    ·have h1 : x1.heap.size ≤ b := hb.1
     simp; omega
    ·have h1 : x1.heap.size ≤ b := hb.1
     simp; omega
   rintro ⟨p, o, c⟩ w7 f7 ⟨k7, pF, hcl, hb7, okg, hfa, huu⟩
   simp only at pF hcl hb7 hfa ⊢
   repeat refine nx rfl ?_
   have kw7 := k1.trans k7
   cases o with
   | error e =>
    have hne := pF.ne
    have he : Out.errno (Except.error e : Out Fml) = e.1 := rfl
    refine AA (AH rfl (AL rfl rfl (by omega) (AC rfl (AJ rfl (AJ rfl (AJ rfl (AJ rfl (AQ rfl (AC rfl ?_)))))))))
    repeat first | refine nx rfl ?_ | refine nf rfl ?_
    (refine AA (AH rfl (BR rfl rfl (by first | exact Al (by omega) (by omega) | exact At (by omega) (by omega) | exact Am (by omega) (by omega)) ?_)) <;> refine AB (AH rfl ?_))
    repeat refine nx rfl ?_
    refine ⟨(i + 1, n + 1), ⟨rfl, ⟨rfl, rfl, rfl, ?_, ?_, trivial⟩, ⟨hlt, hn4, k7⟩⟩, by simp; omega⟩
    ·show Value.int .i64 ((n : Int) + 1) = _
     rw [Int.natCast_add]; rfl
    ·show Value.int .i64 ((i : Int) + 1) = _
     rw [Int.natCast_add]; rfl
   | ok g =>
   have he : Out.errno (Except.ok g : Out Fml) = 0 := rfl
   have hgf : ¬ f = g := fun e => hgone (by rw [e]; exact pF)
   refine AA (AH rfl (Av rfl rfl (by omega) (AC rfl ?_)))
   refine AE rfl (AW rfl (b1.keep k7 (by simp)) hcf ?_)
   refine AE rfl (AW rfl hb7 hcl ?_)
   refine AE rfl (AS (fcompare_ok w7 _ _ f g BH okg (hf.ext kw7) hfa (.inr huu) (by omega)) rfl ?_)
   rintro _ w8 ⟨rfl, k8⟩
   have hcz : cmpF f g ≠ 0 := fun e => hgf ((cmpF_zero f g).1 e)
   refine AE rfl (AL rfl rfl (by omega) (AO rfl (AC rfl ?_)))
   repeat first | refine nx rfl ?_ | refine nf rfl ?_
   (refine AA (AH rfl (BR rfl rfl (by first | exact Al (by omega) (by omega) | exact At (by omega) (by omega) | exact Am (by omega) (by omega)) ?_)) <;> refine AB (AH rfl ?_))
   repeat refine nx rfl ?_
   refine ⟨(i + 1, n + 1), ⟨rfl, ⟨rfl, rfl, rfl, ?_, ?_, trivial⟩, ⟨hlt, hn4, (k7.trans k8)⟩⟩, by simp; omega⟩
   ·show Value.int .i64 ((n : Int) + 1) = _
    rw [Int.natCast_add]; rfl
   ·show Value.int .i64 ((i : Int) + 1) = _
    rw [Int.natCast_add]; rfl
 ·by_cases hlt2 : i < tx.length
  ·refine AA (AH rfl (AY rfl (Bb rfl (BM rfl rfl (by omega) (AC rfl (AE rfl (AH rfl (AE rfl (BN rfl rfl (by omega) (AO rfl (AC rfl ?_)))))))))))
   repeat first | refine nx rfl ?_ | refine nf rfl ?_
   refine AA (AC rfl (AC rfl (AE rfl (AY rfl ?_))))
   (refine AE rfl ?_; refine W_sneq rfl rfl (fun hc => ?_) (fun hc => ?_))
   rotate_left
   ·exact absurd hc hne
   refine AO rfl (AC rfl (AB (AC rfl ?_)))
   repeat refine nx rfl ?_
   exact AP rfl ⟨rfl, kw6⟩
  ·refine AA (AH rfl (AY rfl (Bb rfl (BN rfl rfl (by omega) (AC rfl (AJ rfl (AJ rfl (AQ rfl (AC rfl ?_)))))))))
   repeat first | refine nx rfl ?_ | refine nf rfl ?_
   refine AA (AC rfl (AC rfl (AE rfl (AY rfl ?_))))
   (refine AE rfl ?_; refine W_sneq rfl rfl (fun hc => ?_) (fun hc => ?_))
   rotate_left
   ·exact absurd hc hne
   refine AO rfl (AC rfl (AB (AC rfl ?_)))
   repeat refine nx rfl ?_
   exact AP rfl ⟨rfl, kw6⟩
end Go.Proofs.YtfcgdbmoncnibaaGreatDoor
namespace Go.Proofs.YtfcgdbmoncnibaaGreatDoor
open Go.ChangeShapes Go.WideShapes Go.ChangeAt Go.RowKit
open Go.ChangeMaps (open_string)
section
variable {H : Type} {enc : TypeId × Value → H} {P : Program} {W W' : World}
theorem sameAt_ext (he : Ext W W') {p : MemPlace} (hp : p.block < W.heap.size) : W.sameAt W' p := by
 cases p with
 | cell b off => exact World.cell?_of_block (w := W) (a := ⟨b, off, none⟩) (he.block b hp (by simp))
 | map b => exact he.block b hp (by simp)
theorem trodAll_ext (K : Kids P (· < P.types.size)) (hz : ∀ t e, t < P.types.size → P.underlying t = some (.slice e) → 0 < P.cellsOf e) (he : Ext W W') {sp : Nat → Bool} :
  ∀ {ts : List TypeId} {vs : List Value} {ds : List (DataW H)} {ps : List MemPlace}, (∀ t ∈ ts, t < P.types.size) → DataW.TrodAll enc P W 0 (fun _ => true) true ts vs ds ps →
   (∀ p ∈ ps, p.block < W.heap.size) → (∀ p ∈ ps, sp p.block = true) → DataW.TrodAll enc P W' 0 sp true ts vs ds ps
 | [], [], [], _, _, h, _, _ => h
 | _ :: _, _ :: _, _ :: _, _, hT, ⟨p, q, ⟨n, h1⟩, h2, e⟩, hl, hs => by
  subst e
  refine ⟨p, q, ⟨n, DataW.trod_stays K (fun ht hu => hz _ _ ht hu) (fun h => by cases h) (hT _ (by simp)) h1 (fun x hx => sameAt_ext he (hl x (List.mem_append_left _ hx))) fun x hx => hs x (List.mem_append_left _ hx)⟩, ?_, rfl⟩
  exact trodAll_ext K hz he (fun t ht => hT t (List.mem_cons_of_mem _ ht)) h2 (fun x hx => hl x (List.mem_append_right _ hx)) fun x hx => hs x (List.mem_append_right _ hx)
theorem keptBut_ext (he : Ext W W') (may : MemPlace → Prop) : W.keptBut W' may := by
 refine ⟨he.os, he.output, fun i hi => ?_⟩
 rw [he.block i hi (by simp)]
 exact (World.keptBut_refl W may).2.2 i hi
theorem post_of_ext (K : Kids P (· < P.types.size)) (hz : ∀ t e, t < P.types.size → P.underlying t = some (.slice e) → 0 < P.cellsOf e) {f : Func} {s : ChangeSpec} {apart fresh handsOn : Bool} {args : Array Value} {v : Value} {ds gs : List (DataW H)} {before : List MemPlace} {tb : TypeId}
  (hts : ∀ t ∈ f.params.toList, t < P.types.size) (hs : s.vars = []) (hW : DataW.Whole enc P f.params.toList s.vars apart W args.toList ds gs before)
  (hfn : s.fn H (ds ++ gs) = { results := [.lit (.bool true)], args := ds }) (hrt : f.resultTypes = #[tb]) (htb : P.underlying tb = some .bool) (hv : v = .bool true) (he : Ext W W') :
  s.post enc P f apart fresh handsOn false W args v W' := by
 subst hv
 have hlt : ∀ p ∈ before, p.block < W.heap.size := hW.lt
 obtain ⟨p, q, hA, hV, rfl, hf, hn⟩ := id hW
 have hq : gs = [] ∧ q = [] := by
  rw [hs] at hV
  cases gs with
  | nil => exact ⟨rfl, hV⟩
  | cons _ _ => exact hV.elim
 obtain ⟨rfl, rfl⟩ := hq
 refine ⟨ds, [], _, [], p, [], hW, ?_, ?_, ?_, keptBut_ext he _, (fun h => by cases h)⟩
 ·rw [hfn, hrt]
  exact trodAll_cons_mk (shut_bool htb true) trodAll_mk0
 ·rw [hfn]
  exact trodAll_ext K hz he hts hA (fun x hx => hlt x (List.mem_append_left _ hx)) fun x hx => by simpa using hlt x (List.mem_append_left _ hx)
 ·rw [hfn, hs]; exact rfl
end
theorem kids : Kids Tryz.prog (· < Tryz.prog.types.size) := kids_rows (by kernel_rfl) (by kernel_rfl)
theorem full : ∀ t e, t < Tryz.prog.types.size → Tryz.prog.underlying t = some (.slice e) → 0 < Tryz.prog.cellsOf e := slices_full_of Tryz.prog (by kernel_rfl)
theorem own : ownKnob Tryz.prog.godebug = none := by kernel_rfl
section
variable {H : Type} {enc : TypeId × Value → H} {P : Program} {W : World} {sp : Nat → Bool} {hd : Bool}
theorem spot_none {a : Addr} {v : Value} (h : W.cell? a = some v) : a.spot = none := by
 cases ha : a.spot with
 | none => rfl
 | some _ =>
  unfold World.cell? at h
  split at h
  ·simp [ha] at h
  ·cases h
end
end Go.Proofs.YtfcgdbmoncnibaaGreatDoor
namespace Go.Proofs.YtfcgdbmoncnibaaGreatDoor
open Go.ChangeShapes Go.WideShapes Go.ChangeAt Go.RowKit
set_option linter.unusedVariables false
theorem lenF {cs : List Value} (h : cs.length = 5) : ∃ c0 c1 c2 c3 c4, cs = [c0, c1, c2, c3, c4] := by
 match cs, h with
 | [a, b, c, d, e], _ => exact ⟨a, b, c, d, e, rfl⟩
theorem cell_eq {w : World} {b i j : Nat} (h : i = j) : w.cell? ⟨b, i, none⟩ = w.cell? ⟨b, j, none⟩ := by rw [h]
section
variable {H : Type} {enc : TypeId × Value → H} {W : World} {sp : Nat → Bool} {hd : Bool}
theorem open_rows {α : Type} [Inhabited α] {t e : TypeId} {c fuel : Nat} {cs : List Value} {x : DataW H × List MemPlace} (Q : List Value → α → Prop) (ht : Tryz.prog.underlying t = some (.slice e)) (hc : Tryz.prog.cellsOf e = c) (h0 : 0 < c)
  (hQ : ∀ (n : Nat) (cs : List Value) (x : DataW H × List MemPlace), n < fuel → DataW.trod enc Tryz.prog W 0 sp hd n e cs = some x → ∃ a, Q cs a) (h : DataW.trod enc Tryz.prog W 0 sp hd fuel t cs = some x) :
  ∃ (a : Option Addr) (k : Nat) (L : List (List Value)) (l : List α), cs = [.slice a l.length k] ∧ Sl BH W (.slice a l.length k) l.length L.flatten ∧ L.length = l.length ∧ (∀ d ∈ L, d.length = c) ∧ ∀ (i : Nat) (d : List Value) (a : α), L[i]? = some d → l[i]? = some a → Q d a := by
 rcases DataW.trod_slice ht h with ⟨rfl, _⟩ | ⟨a, len, cap, elems, rest, n, rfl, rfl, _, _, hl, hm, hlen, hel, _, _⟩
 ·exact ⟨none, 0, [], [], rfl, ⟨none, 0, rfl, Nat.le_refl _, by omega, fun _ => rfl, .inl rfl⟩, rfl, (fun d hd => by cases hd), fun i d a h => by simp at h⟩
 ·rw [hc] at hel
  obtain ⟨D, hD⟩ := Deep.choose_lt (α := List Value × α) (n := len) (p := fun i q => W.cells? 0 (a.add (i * c)) c = some q.1 ∧ Q q.1 q.2) (fun i hi => by
   have h1 := hel i hi
   rw [List.getElem?_eq_getElem (by omega)] at h1
   obtain ⟨cs', h2, h3⟩ := Option.bind_eq_some_iff.1 h1
   obtain ⟨b, hb⟩ := hQ n cs' _ (Nat.lt_succ_self n) h3
   exact ⟨(cs', b), h2, hb⟩)
  have hlen' : ∀ i, i < len → (D i).1.length = c := fun i hi => (World.cells?_some (hD i hi).1).2.1
  have hrow : ∀ d ∈ ((List.range len).map fun i => (D i).1), d.length = c := by
   intro d hd
   obtain ⟨i, hi, rfl⟩ := List.mem_map.1 hd
   exact hlen' i (List.mem_range.1 hi)
  have hll : ((List.range len).map fun i => (D i).2).length = len := by simp
  refine ⟨some a, cap, (List.range len).map fun i => (D i).1, (List.range len).map fun i => (D i).2, by rw [hll], ⟨some a, cap, rfl, by omega, by simp only [maxLen] at hm; omega, (fun h => by cases h), ?_⟩, by simp, hrow, ?_⟩
  ·by_cases hz : len = 0
   ·left; omega
   ·right
    have hc0 := (World.cells?_some (hD 0 (by omega)).1).2.2 0 h0
    have hs : a.spot = none := by
     have hd0 := hlen' 0 (by omega)
     rw [List.getElem?_eq_getElem (by omega)] at hc0
     have := spot_none hc0
     simpa [Addr.add] using this
    obtain ⟨b, off, s⟩ := a
    simp only at hs
    subst hs
    refine ⟨b, off, rfl, trivial, fun i u hu => ?_⟩
    have hlt := (List.getElem?_eq_some_iff.1 hu).1
    rw [CG c _ hrow] at hlt
    simp only [List.length_map, List.length_range] at hlt
    have hk : i / c < len := (Nat.div_lt_iff_lt_mul h0).2 hlt
    have hj : i % c < c := Nat.mod_lt _ h0
    have hrk : ((List.range len).map fun i => (D i).1)[i / c]? = some (D (i / c)).1 := by
     rw [List.getElem?_map, List.getElem?_range hk]; rfl
    have hdk := hlen' _ hk
    have hv : (D (i / c)).1[i % c]? = some (D (i / c)).1[i % c] := List.getElem?_eq_getElem (by omega)
    have h1 := DD c _ _ _ _ _ hrow hrk hv
    have hi : i / c * c + i % c = i := by rw [Nat.mul_comm]; exact Nat.div_add_mod i c
    rw [hi] at h1
    have h2 := (World.cells?_some (hD _ hk).1).2.2 (i % c) hj
    rw [Addr.add_lit, Addr.add_lit, hv] at h2
    have e : u = (D (i / c)).1[i % c] := Option.some.inj (hu.symm.trans h1)
    rw [e, ← h2]
    exact cell_eq (by omega)
  ·intro i d b hd hb
   obtain ⟨h1, rfl⟩ := List.getElem?_eq_some_iff.1 hd
   obtain ⟨_, rfl⟩ := List.getElem?_eq_some_iff.1 hb
   simp at h1
   simp only [List.getElem_map, List.getElem_range]
   exact (hD i (by omega)).2
theorem cellF : Tryz.prog.cellsOf 24 = 5 := by kernel_rfl
theorem cellI : Tryz.prog.cellsOf 3 = 1 := by kernel_rfl
theorem cellSt : Tryz.prog.cellsOf 9 = 1 := by kernel_rfl
theorem cellFs : Tryz.prog.cellsOf 22 = 1 := by kernel_rfl
theorem strV_toList (s : ByteArray) : Value.string s = AM s.data.toList := by simp [AM]
theorem get_of_len {β : Type} {xs : List β} {n i : Nat} (h : xs.length = n) (hi : i < n) : ∃ y, xs[i]? = some y := ⟨_, List.getElem?_eq_getElem (by omega)⟩
theorem open_fml : ∀ (fuel : Nat) (cs : List Value) (x : DataW H × List MemPlace), DataW.trod enc Tryz.prog W 0 sp hd fuel 24 cs = some x → ∃ f : Fml, fmlR.fits BH W cs f := by
 intro fuel
 induction fuel using Nat.strongRecOn with
 | ind fuel ih =>
 intro cs x h
 obtain ⟨xs, n, rfl, _, hl, hxl, hf⟩ := DataW.trod_struct Tryz.underlying24 h
 rw [cellF] at hl
 obtain ⟨c0, c1, c2, c3, c4, rfl⟩ := lenF hl
 have hx5 : xs.length = 5 := hxl
 have f0 : DataW.trod enc Tryz.prog W 0 sp hd n 3 ((List.drop 0 [c0, c1, c2, c3, c4]).take (Tryz.prog.cellsOf 3)) = xs[0]? := hf 0 _ rfl
 have f1 : DataW.trod enc Tryz.prog W 0 sp hd n 9 ((List.drop 1 [c0, c1, c2, c3, c4]).take (Tryz.prog.cellsOf 9)) = xs[1]? := hf 1 _ rfl
 have f2 : DataW.trod enc Tryz.prog W 0 sp hd n 3 ((List.drop 2 [c0, c1, c2, c3, c4]).take (Tryz.prog.cellsOf 3)) = xs[2]? := hf 2 _ rfl
 have f3 : DataW.trod enc Tryz.prog W 0 sp hd n 3 ((List.drop 3 [c0, c1, c2, c3, c4]).take (Tryz.prog.cellsOf 3)) = xs[3]? := hf 3 _ rfl
 have f4 : DataW.trod enc Tryz.prog W 0 sp hd n 22 ((List.drop 4 [c0, c1, c2, c3, c4]).take (Tryz.prog.cellsOf 22)) = xs[4]? := hf 4 _ rfl
 rw [cellI] at f0 f2 f3
 rw [cellSt] at f1
 rw [cellFs] at f4
 obtain ⟨y0, g0⟩ := get_of_len (i := 0) hx5 (by omega)
 obtain ⟨y1, g1⟩ := get_of_len (i := 1) hx5 (by omega)
 obtain ⟨y2, g2⟩ := get_of_len (i := 2) hx5 (by omega)
 obtain ⟨y3, g3⟩ := get_of_len (i := 3) hx5 (by omega)
 obtain ⟨y4, g4⟩ := get_of_len (i := 4) hx5 (by omega)
 obtain ⟨op, e0, _, _⟩ := DataW.trod_int Tryz.underlying3 (f0.trans g0)
 obtain ⟨s, e1, _, _⟩ := DataW.trod_string Tryz.underlying9 (f1.trans g1)
 obtain ⟨v, e2, _, _⟩ := DataW.trod_int Tryz.underlying3 (f2.trans g2)
 obtain ⟨b, e3, _, _⟩ := DataW.trod_int Tryz.underlying3 (f3.trans g3)
 have : Inhabited Fml := ⟨zeroF⟩
 obtain ⟨a, k, L, l, e4, hS, hL, h5, hA⟩ := open_rows (fun d g => fmlR.fits BH W d g) Tryz.underlying22 cellF (by omega) (fun m cs x hm hx => ih m (by omega) cs x hx) (f4.trans g4)
 have e0' : c0 = .int .i64 op := by simpa using e0
 have e1' : c1 = AM s.data.toList := by rw [← strV_toList]; simpa using e1
 have e2' : c2 = .int .i64 v := by simpa using e2
 have e3' : c3 = .int .i64 b := by simpa using e3
 have e4' : c4 = .slice a l.length k := by simpa using e4
 subst e0' e1' e2' e3' e4'
 exact ⟨⟨op, s.data.toList, v, b, l⟩, rfl, .mk op _ v b l _ L hS hL h5 fun i c g hc hg => (hA i c g hc hg).2⟩
end
set_option maxRecDepth 100000 in
theorem val_struct {W : World} {r : Reach} {t : TypeId} {fs : Array Field} {v : Value} {b : Nat} (ht : Tryz.prog.underlying t = some (.struct fs)) (hval : Value.okWide Tryz.prog W r b t v) : v = .agg v.cells := by
 obtain ⟨cs, rfl, _⟩ := okWide_struct ht hval
 rfl
section
variable {H : Type} {enc : TypeId × Value → H} {W : World} {sp : Nat → Bool} {hd : Bool} {r : Reach} {b : Nat} {v : Value} {x : DataW H × List MemPlace}
set_option maxRecDepth 100000 in
theorem arg_fml (hval : Value.okWide Tryz.prog W r b 24 v) (h : ∃ n, DataW.trod enc Tryz.prog W 0 sp hd n 24 v.cells.toList = some x) : ∃ f : Fml, FAt BH W v f := by
 obtain ⟨n, h⟩ := h
 obtain ⟨f, hf⟩ := open_fml _ _ _ h
 have e := val_struct Tryz.underlying24 hval
 refine ⟨f, ?_⟩
 rw [e]
 simpa using hf.2
end
end Go.Proofs.YtfcgdbmoncnibaaGreatDoor
