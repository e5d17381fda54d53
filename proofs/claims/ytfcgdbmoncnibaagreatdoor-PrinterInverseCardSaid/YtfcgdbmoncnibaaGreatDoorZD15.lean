/- The order of formulas: the stack of Compare. The order of formulas: Compare walked. The lexer's laws: gaps. The reference lexer: kinds of bytes, symbols, the next token. The reference lexer: the next token. The reference lexer: all tokens. Conditions: none. -/
import Derived.Test.YtfcgdbmoncnibaaGreatDoorZD14

namespace Go.Proofs.YtfcgdbmoncnibaaGreatDoor
open Go.RowKit
set_option linter.unusedVariables false
variable {mk : Prop} [MK mk]
abbrev PP := List Fml × List Fml
def cmpSt : List PP → Int
 | [] => 0
 | p :: r => Cb (cmpL p.1 p.2) (cmpSt r)
def wtSt (ps : List PP) : Nat := (ps.map fun p => 2 * szL p.1 + 1).sum
theorem BO (ps : List PP) (p : PP) : wtSt (ps ++ [p]) = wtSt ps + (2 * szL p.1 + 1) := by simp [wtSt]
theorem wtSt_len : ∀ ps : List PP, ps.length ≤ wtSt ps
 | [] => Nat.zero_le _
 | p :: ps => by have := wtSt_len ps; simp only [wtSt, List.map_cons, List.sum_cons, List.length_cons] at this ⊢; omega
def Row2 (okf okg : Nat → Prop) (W : World) (c : List Value) (p : PP) : Prop := ∃ v v', c = [v, v'] ∧ FL okf W v p.1 ∧ FL okg W v' p.2 ∧ p.1.length = p.2.length
theorem Row2.keep {okf okg : Nat → Prop} {X : List Nat} {W W' : World} {c : List Value} {p : PP} (h : Row2 okf okg W c p) (k : Keep X W W') (h1 : ∀ b, okf b → b ∉ X) (h2 : ∀ b, okg b → b ∉ X) : Row2 okf okg W' c p := by
 obtain ⟨v, v', e, a, b, l⟩ := h
 exact ⟨v, v', e, a.keep k h1, b.keep k h2, l⟩
structure CS (okf okg : Nat → Prop) (C : Nat) (W : World) (g cap : Nat) (e : TypeId) (L : List (List Value)) (rest : List Value) (ps : List PP) : Prop where
 ge : C ≤ g
 blk : Blk W g e (L.flatten ++ rest)
 len : (L.flatten ++ rest).length = cap * 2
 mx : cap ≤ maxLen
 two : ∀ c ∈ L, c.length = 2
 ll : L.length = ps.length
 rows : ∀ (i : Nat) (c : List Value) (p : PP), L[i]? = some c → ps[i]? = some p → Row2 okf okg W c p
 lo : ∀ b, okf b ∨ okg b → b < C
section
variable {okf okg : Nat → Prop} {C g cap : Nat} {W W' : World} {e : TypeId} {L : List (List Value)} {rest : List Value} {ps : List PP}
theorem CS.flat (h : CS okf okg C W g cap e L rest ps) : L.flatten.length = ps.length * 2 := by rw [CV 2 L h.two, h.ll]
theorem CS.le (h : CS okf okg C W g cap e L rest ps) : ps.length ≤ cap := by
 have h1 := h.len
 rw [List.length_append, h.flat] at h1
 omega
theorem CS.ext (h : CS okf okg C W g cap e L rest ps) (k : Ext W W') : CS okf okg C W' g cap e L rest ps :=
 ⟨h.ge, h.blk.keep k (by simp), h.len, h.mx, h.two, h.ll, fun i c p hc hp => (h.rows i c p hc hp).keep k (by simp) (by simp), h.lo⟩
theorem CS.cut {c : List Value} {p : PP} (h : CS okf okg C W g cap e (L ++ [c]) rest (ps ++ [p])) : CS okf okg C W g cap e L (c ++ rest) ps := by
 have e1 : (L ++ [c]).flatten ++ rest = L.flatten ++ (c ++ rest) := by simp
 refine ⟨h.ge, by rw [← e1]; exact h.blk, by rw [← e1]; exact h.len, h.mx, fun d hd => h.two d (by simp [hd]), by have := h.ll; simpa using this, fun i d q hd hq => ?_, h.lo⟩
 have hi := (List.getElem?_eq_some_iff.1 hd).1
 have hi2 := (List.getElem?_eq_some_iff.1 hq).1
 exact h.rows i d q (by rw [List.getElem?_append_left hi]; exact hd) (by rw [List.getElem?_append_left hi2]; exact hq)
theorem CS.split (h : CS okf okg C W g cap e L rest ps) (h0 : 0 < ps.length) : ∃ L' ps' v v' l m, L = L' ++ [[v, v']] ∧ ps = ps' ++ [(l, m)] ∧ FL okf W v l ∧ FL okg W v' m ∧ l.length = m.length := by
 have hl := h.ll
 obtain ⟨ps', q, rfl⟩ : ∃ ps' q, ps = ps' ++ [q] := ⟨ps.dropLast, ps.getLast (by intro e; simp [e] at h0), (List.dropLast_concat_getLast _).symm⟩
 obtain ⟨L', c, rfl⟩ : ∃ L' c, L = L' ++ [c] := ⟨L.dropLast, L.getLast (by intro e; simp [e] at hl), (List.dropLast_concat_getLast _).symm⟩
 simp only [List.length_append, List.length_singleton] at hl
 have hr := h.rows ps'.length c q (by rw [List.getElem?_append_right (by omega)]; simp [show ps'.length - L'.length = 0 by omega]) (by simp)
 obtain ⟨v, v', rfl, h1, h2, h3⟩ := hr
 exact ⟨L', ps', v, v', q.1, q.2, rfl, rfl, h1, h2, h3⟩
theorem CS.cells {v v' : Value} {l m : List Fml} (h : CS okf okg C W g cap e (L ++ [[v, v']]) rest (ps ++ [(l, m)])) : W.cell? ⟨g, 0 + ps.length * 2 + 0, none⟩ = some v ∧ W.cell? ⟨g, 0 + ps.length * 2 + 1, none⟩ = some v' ∧ 0 + ps.length * 2 + 1 < ((L ++ [[v, v']]).flatten ++ rest).length := by
 have hll := h.ll
 simp only [List.length_append, List.length_singleton] at hll
 have hL : L.flatten.length = ps.length * 2 := by rw [CV 2 L fun c hc => h.two c (by simp [hc])]; omega
 have e0 : ((L ++ [[v, v']]).flatten ++ rest)[0 + ps.length * 2 + 0]? = some v := by
  simp only [List.flatten_append, List.flatten_cons, List.flatten_nil, List.append_nil, List.append_assoc]
  rw [List.getElem?_append_right (by omega)]
  simp [hL]
 have e1 : ((L ++ [[v, v']]).flatten ++ rest)[0 + ps.length * 2 + 1]? = some v' := by
  simp only [List.flatten_append, List.flatten_cons, List.flatten_nil, List.append_nil, List.append_assoc]
  rw [List.getElem?_append_right (by omega)]
  rw [show 0 + ps.length * 2 + 1 - L.flatten.length = 1 by omega]; rfl
 exact ⟨h.blk.cell e0, h.blk.cell e1, (List.getElem?_eq_some_iff.1 e1).1⟩
theorem CS.put {v v' u u' : Value} {l m l' m' : List Fml} (h : CS okf okg C W g cap e (L ++ [[v, v']]) rest (ps ++ [(l, m)])) (k : Keep [g] W W')
  (hb : Blk W' g e ((((L ++ [[v, v']]).flatten ++ rest).set (0 + ps.length * 2 + 0) u).set (0 + ps.length * 2 + 1) u')) (h1 : FL okf W' u l') (h2 : FL okg W' u' m') (hlm : l'.length = m'.length) : CS okf okg C W' g cap e (L ++ [[u, u']]) rest (ps ++ [(l', m')]) := by
 have hll := h.ll
 simp only [List.length_append, List.length_singleton] at hll
 have hL2 : ∀ c ∈ L, c.length = 2 := fun c hc => h.two c (by simp [hc])
 have hL : L.flatten.length = ps.length * 2 := by rw [CV 2 L hL2]; omega
 have e0 : (((L ++ [[v, v']]).flatten ++ rest).set (0 + ps.length * 2 + 0) u).set (0 + ps.length * 2 + 1) u' = (L ++ [[u, u']]).flatten ++ rest := by
  simp only [List.flatten_append, List.flatten_cons, List.flatten_nil, List.append_nil, List.append_assoc]
  rw [List.set_append_right _ _ (by omega), List.set_append_right _ _ (by omega), show 0 + ps.length * 2 + 0 - L.flatten.length = 0 by omega, show 0 + ps.length * 2 + 1 - L.flatten.length = 1 by omega]
  rfl
 have hg : ∀ b, okf b ∨ okg b → b ∉ [g] := fun b hb hm => by
  have := h.lo b hb; have := h.ge; simp at hm; omega
 refine ⟨h.ge, by rw [← e0]; exact hb, ?_, h.mx, fun c hc => ?_, by simp; omega, fun i c p hc hp => ?_, h.lo⟩
 ·have := h.len
  simp only [List.flatten_append, List.flatten_cons, List.flatten_nil, List.append_nil, List.length_append, List.length_cons, List.length_nil] at this ⊢
  exact this
 ·rcases List.mem_append.1 hc with hc | hc
  ·exact hL2 c hc
  ·simp at hc; subst hc; rfl
 ·by_cases hi : i < L.length
  ·rw [List.getElem?_append_left hi] at hc
   rw [List.getElem?_append_left (by omega)] at hp
   exact (h.rows i c p (by rw [List.getElem?_append_left hi]; exact hc) (by rw [List.getElem?_append_left (by omega)]; exact hp)).keep k (fun b hb => hg b (.inl hb)) fun b hb => hg b (.inr hb)
  ·have hi2 := (List.getElem?_eq_some_iff.1 hc).1
   simp at hi2
   have : i = L.length := by omega
   subst this
   simp at hc
   have hp' : (ps ++ [(l', m')])[ps.length]? = some p := by rw [show ps.length = L.length by omega]; exact hp
   simp at hp'
   subst hc; subst hp'
   exact ⟨u, u', rfl, h1, h2, hlm⟩
theorem CS.push {g' cap' : Nat} {e' : TypeId} {cur' : Array Value} {u u' : Value} {l' m' : List Fml} (h : CS okf okg C W g cap e L rest ps) (hC : C ≤ W.heap.size) (hg : g' = g ∨ g' = W.heap.size) (hb : W'.heap[g']? = some (.cells cur' e' (0, 0))) (hs : cur'.size = cap' * 2) (hm : cap' ≤ maxLen)
  (ht : cur'.toList.take ((ps.length + 1) * 2) = (L.flatten ++ rest).take (ps.length * 2) ++ [u, u']) (k : Keep [g] W W') (h1 : FL okf W' u l') (h2 : FL okg W' u' m') (hlm : l'.length = m'.length) : CS okf okg C W' g' cap' e' (L ++ [[u, u']]) (cur'.toList.drop ((ps.length + 1) * 2)) (ps ++ [(l', m')]) := by
 have hll := h.ll
 have hge := h.ge
 have hno : ∀ b, okf b ∨ okg b → b ∉ [g] := fun b hb hm => by
  have := h.lo b hb; simp at hm; omega
 have e1 : (L.flatten ++ rest).take (ps.length * 2) = L.flatten := by rw [← h.flat]; exact List.take_left
 have e2 : (L ++ [[u, u']]).flatten ++ cur'.toList.drop ((ps.length + 1) * 2) = cur'.toList := by
  rw [e1] at ht
  simp only [List.flatten_append, List.flatten_cons, List.flatten_nil, List.append_nil]
  rw [← ht, List.take_append_drop]
 refine ⟨by rcases hg with rfl | rfl <;> omega, ?_, by rw [e2]; simpa using hs, hm, fun c hc => ?_, by simp; omega, fun i c p hc hp => ?_, h.lo⟩
 ·rw [e2]
  show W'.heap[g']? = _
  rw [hb]
 ·rcases List.mem_append.1 hc with hc | hc
  ·exact h.two c hc
  ·simp at hc; subst hc; rfl
 ·by_cases hi : i < L.length
  ·rw [List.getElem?_append_left hi] at hc
   rw [List.getElem?_append_left (by omega)] at hp
   exact (h.rows i c p hc hp).keep k (fun b hb => hno b (.inl hb)) fun b hb => hno b (.inr hb)
  ·have hi2 := (List.getElem?_eq_some_iff.1 hc).1
   simp at hi2
   have : i = L.length := by omega
   subst this
   have hp' : (ps ++ [(l', m')])[ps.length]? = some p := by rw [show ps.length = L.length by omega]; exact hp
   simp at hp' hc
   subst hc; subst hp'
   exact ⟨u, u', rfl, h1, h2, hlm⟩
end
end Go.Proofs.YtfcgdbmoncnibaaGreatDoor
namespace Go.Proofs.YtfcgdbmoncnibaaGreatDoor
open Go.RowKit
set_option linter.unusedVariables false
variable {mk : Prop} [MK mk]
theorem cmpL_cons0 {x y : Fml} {l m : List Fml} (h : cmpF x y = 0) : cmpL (x :: l) (y :: m) = cmpL l m := by rw [cmpL, CR h]
theorem Dl (a b c : Int) : Cb (Cb a b) c = Cb a (Cb b c) := by
 unfold Cb
 by_cases h : a = 0
 ·rw [if_pos h, if_pos h]
 ·rw [if_neg h, if_neg h, if_neg h]
structure CI (w : World) (okf okg : Nat → Prop) (N : Nat) (r : Int) (x : Nat × Nat × List PP) (W : World) : Prop where
 cs : ∃ e L rest, CS okf okg w.heap.size W x.1 x.2.1 e L rest x.2.2
 ext : Ext w W
 res : r = cmpSt x.2.2.reverse
 wt : wtSt x.2.2 ≤ N
theorem PF.op {ok : Nat → Prop} {w : World} {b o : Nat} {f : Fml} (h : PF ok w b o f) : w.cell? ⟨b, o + 0, none⟩ = some (.int .i64 f.op) := by
 obtain ⟨_, a, c, L, hc, _⟩ := h.form
 exact hc 0 _ rfl
theorem Cp (ps : List PP) (p : PP) : cmpSt (ps ++ [p]).reverse = Cb (cmpL p.1 p.2) (cmpSt ps.reverse) := by simp [cmpSt]
theorem cell_same {w W V : World} {b o : Nat} {v : Value} (k : Ext w W) (k' : Ext w V) (hb : b < w.heap.size) (h : W.cell? ⟨b, o, none⟩ = some v) : V.cell? ⟨b, o, none⟩ = some v := by
 have e1 := k.block b hb (by simp)
 have e2 := k'.block b hb (by simp)
 unfold World.cell? at h ⊢
 rw [e2, ← e1]
 exact h
set_option maxHeartbeats 6400000 in
theorem fcompare_ok (w : World) (v v' : Value) (f g : Fml) (okf okg : Nat → Prop) (hf : FAt okf w v f) (hg : FAt okg w v' g) (hu : (∀ b, okf b → Unm w b) ∨ (∀ b, okg b → Unm w b)) (hz : szF f ≤ 1000000) :
  Fn Tryz.prog 26 [v, v'] w fun r w' => r = .int .i64 (cmpF f g) ∧ Ext w w' := by
 obtain ⟨av, rfl, Lf, hSf, hFf⟩ := hf.form
 obtain ⟨bv, rfl, Lg, hSg, hFg⟩ := hg.form
 obtain ⟨a, c, rfl, _⟩ := id hSf
 obtain ⟨a', c', rfl, _⟩ := id hSg
 have hSf' := hSf.lt (flatten_ne hFf.1 hFf.2.1)
 have hSg' := hSg.lt (flatten_ne hFg.1 hFg.2.1)
 have hlf := hf.lt
 have hlg := hg.lt
 refine Ae Tryz.func26 rfl Tryz.ntmps26 (Nat.le_of_ble_eq_true rfl) (by kernel_rfl) ?_
 repeat refine nx rfl ?_
 (refine AA ?_; refine Bh (L := fcC f (.slice a f.args.length c)) rfl (fun w1 n1 => ?_))
 refine Bh (L := fcC g (.slice a' g.args.length c')) rfl (fun w2 n2 => ?_)
 have b1 := n1.blk.keep n2.keep (by simp)
 have b2 := n2.blk
 have z1 := n1.size
 have z2 := n2.size
 have k2 : Ext w w2 := n1.keep.trans n2.keep
 refine AC (AH rfl ?_)
 repeat refine nx rfl ?_
 have pf : PF A1 w2 w.heap.size 0 f := ⟨trivial, fcC f _, rfl, b1.cells, ((hf.ext k2).mono fun _ _ => trivial)⟩
 have pg : PF A1 w2 w1.heap.size 0 g := ⟨trivial, fcC g _, rfl, b2.cells, ((hg.ext k2).mono fun _ _ => trivial)⟩
 refine AA ?_
 refine AS (cmpNodes_ok w2 _ _ _ _ f g pf pg) rfl ?_
 rintro _ w3 ⟨rfl, k3⟩
 refine AC (AH rfl ?_)
 repeat refine nx rfl ?_
 have e4 : w3.cell? ⟨w.heap.size, 0 + 4, none⟩ = some (.slice a f.args.length c) := (b1.keep k3 (by simp)).cell rfl
 have e4' : w3.cell? ⟨w1.heap.size, 0 + 4, none⟩ = some (.slice a' g.args.length c') := (b2.keep k3 (by simp)).cell rfl
 have k03 : Ext w w3 := k2.trans k3
 generalize hcn : cmpN f g = cn
 have hsp := cmpF_split f g
 rw [hcn] at hsp
 by_cases hne : cn = 0
 rotate_left
 ·(refine AA (AH rfl ?_) <;> (refine W_neq rfl rfl (fun hc => ?_) (fun hc => ?_) <;> try omega) <;> refine AB rfl (AI rfl (AI rfl (AI rfl (AI rfl (AL rfl (AB rfl ?_)))))))
  repeat refine nx rfl ?_
  refine AA (AH rfl (AC (AH rfl ?_)))
  repeat refine nx rfl ?_
  exact AP rfl ⟨congrArg (Value.int .i64) (by rw [hsp, thenI_ne hne]), k03⟩
 rw [CR hne] at hsp
 by_cases h0 : f.args.length = 0
 ·(refine AA (AH rfl ?_) <;> (refine W_neq rfl rfl (fun hc => ?_) (fun hc => ?_) <;> try omega) <;> refine AB rfl (AE rfl (AD rfl (AE rfl (AF rfl (by assumption) ?_)))) <;> refine AE rfl (Ap rfl ?_) <;> (refine AE rfl ?_; (refine Bq rfl rfl (fun hc => ?_) (fun hc => ?_) <;> try omega)) <;> refine AN rfl (AB rfl ?_))
  repeat refine nx rfl ?_
  refine AA (AH rfl (AC (AH rfl ?_)))
  repeat refine nx rfl ?_
  refine AP rfl ⟨congrArg (Value.int .i64) ?_, k03⟩
  rw [hsp, List.length_eq_zero_iff.1 h0, hne]
  cases g.args <;> rfl
 (refine AA (AH rfl ?_) <;> (refine W_neq rfl rfl (fun hc => ?_) (fun hc => ?_) <;> try omega) <;> refine AB rfl (AE rfl (AD rfl (AE rfl (AF rfl (by assumption) ?_)))) <;> refine AE rfl (Ap rfl ?_) <;> (refine AE rfl ?_; (refine Bq rfl rfl (fun hc => ?_) (fun hc => ?_) <;> try omega)) <;> refine AN rfl (AB rfl ?_))
 repeat first | refine nx rfl ?_ | refine nf rfl ?_
 have hlen : f.args.length = g.args.length := by
  unfold cmpN at hcn
  rw [hne] at hcn
  simp only [thenI_zero, cmpI_zero] at hcn
  omega
 refine AA ?_
 refine Av (fun w4 n4 => ?_)
 repeat refine nx rfl ?_
 have z4 := n4.size
 have z3 := k3.size
 have k04 := k03.trans n4.keep
 have FLf : ∀ W, Ext w W → FL (fun b => okf b ∧ b < w.heap.size) W (.slice a f.args.length c) f.args := fun W k => ⟨a, c, Lf, rfl, hSf'.ext k, (FsAt.lt hFf).keep k (by simp)⟩
 have FLg : ∀ W, Ext w W → FL (fun b => okg b ∧ b < w.heap.size) W (.slice a' g.args.length c') g.args := fun W k => ⟨a', c', Lg, rfl, hSg'.ext k, (FsAt.lt hFg).keep k (by simp)⟩
 have hUm : (∀ W, Ext w W → ∀ b, okf b ∧ b < w.heap.size → Unm W b) ∨ (∀ W, Ext w W → ∀ b, okg b ∧ b < w.heap.size → Unm W b) := by
  rcases hu with hu | hu
  ·exact .inl fun W k b hb => (hu b hb.1).eq (k.block b hb.2 (by simp))
  ·exact .inr fun W k b hb => (hu b hb.1).eq (k.block b hb.2 (by simp))
 clear hlf hlg hSf' hSg' pf pg
 refine A3 (.read 0 (.read 1 (.read 2 (.read 3 (.read 4 (.read 5 (.alt 6 (.alt 7 (.read 8 .done) .stop) .stop))))))) BA (by kernel_rfl) (fun wd kd ed => ⟨Ext w3, ?_, ?_⟩)
 ·exact n4.keep.trans kd
 have qa : ∀ W, Ext w3 W → W.cell? ⟨w.heap.size, 0 + 4, none⟩ = some (.slice a f.args.length c) := fun W e => e.cell e4 (by simp)
 have qb : ∀ W, Ext w3 W → W.cell? ⟨w1.heap.size, 0 + 4, none⟩ = some (.slice a' g.args.length c') := fun W e => e.cell e4' (by simp)
 (apply D_R rfl rfl; (intro W hW; (refine W_slice_arr_h rfl rfl (by omega) (by omega) ?_); exact AJ ⟨rfl, rfl, rfl⟩))
 (refine D_R rfl rfl (fun W hW => AD rfl Z3) (D_R rfl rfl (fun W hW => AF rfl (qa W hW) Z3) (D_R rfl rfl (fun W hW => AD rfl Z3) (D_R rfl rfl (fun W hW => AF rfl (qb W hW) Z3) ?_))) <;> (apply D_R rfl rfl; (intro W hW; refine Af (by rfl) (by rfl) ?_; exact Z3)))
 refine D_E rfl ?_
 refine AW (out := [.slice a f.args.length c, .slice a' g.args.length c']) rfl (by omega) (by kernel_rfl) (fun w5 n5 => ?_)
 have z5 := n5.size
 have zd := kd.size
 refine AJ ⟨Ext w3, fun _ e => e, (n4.keep.trans kd).trans n5.keep, ?_⟩
 have b5 := (n4.blk.keep kd (by simp)).keep n5.keep (by simp)
 have k45 := (n4.keep.trans kd).trans n5.keep
 refine D_E rfl ?_
 refine W_append1 (size := 2) (n := 0) (cap := 8) (g := w3.heap.size) (sv := .slice (some ⟨wd.heap.size, 0, none⟩) 1 1) (ok := A1) (cs := [.slice a f.args.length c, .slice a' g.args.length c']) rfl rfl b5 (by rfl) (by omega) (by decide)
  ⟨_, _, rfl, by omega, by omega, (fun h => by cases h), .inr ⟨_, _, rfl, trivial, n5.blk.cells⟩⟩ (by decide) rfl rfl (by intro u hu; simp at hu; rcases hu with rfl | rfl <;> rfl) (by omega) (by omega) (fun g' cap' e' cur' w6 hg' hb' hs' hle' hm' ht' k6 => ?_)
 have c0 : CS (fun b => okf b ∧ b < w.heap.size) (fun b => okg b ∧ b < w.heap.size) w.heap.size w5 w3.heap.size 8 _ [] _ [] := ⟨by omega, b5, rfl, by decide, (fun c hc => by cases hc), rfl, (fun i c p hc => by simp at hc), fun b hb => by rcases hb with hb | hb <;> exact hb.2⟩
 have k46 : Ext w3 w6 := k45.keep k6 (by simp)
 have c6 := c0.push (by omega) hg' hb' hs' hm' ht' k6 (FLf w6 (k03.trans k46)) (FLg w6 (k03.trans k46)) hlen
 refine AJ ⟨Ext w3, fun _ e => e, k46, ?_⟩
 refine D_R rfl rfl (fun W hW => AC (Aa rfl Z3)) (Ay ?_)
 repeat refine nx rfl ?_
 have hsz := szF_eq f
 refine BN (α := Nat × Nat × List PP) (fun x => [(7, .slice (some ⟨x.1, 0, none⟩) x.2.2.length x.2.1)]) (CI w (fun b => okf b ∧ b < w.heap.size) (fun b => okg b ∧ b < w.heap.size) 2000001 (cmpF f g)) (fun x => wtSt x.2.2) (g', cap', [(f.args, g.args)]) ⟨rfl, trivial⟩
  ⟨⟨_, _, _, c6⟩, k03.trans k46, by rw [hsp]; simp [cmpSt, Cb], by simp [wtSt]; omega⟩ ?_
 clear c6 c0 k46 k45 hb' ht' k6 FLf FLg b5 n5 n4 hc qa qb e4 e4' kd
 rintro ⟨gb, cap, ps⟩ W f3 hI
 obtain ⟨⟨e, L, rest, hcs⟩, kW, hres, hwt⟩ := hI
 simp only at hcs hres hwt ⊢
 repeat refine nx rfl ?_
 by_cases hp0 : ps.length = 0
 ·have e0 : ps = [] := List.length_eq_zero_iff.1 hp0
  subst e0
  (refine AA (Aa rfl (Ap rfl ?_)) <;> (refine W_gtr rfl rfl (fun hc => ?_) (fun hc => ?_) <;> try omega))
  repeat first | refine nx rfl ?_ | refine nf rfl ?_
  refine AA (AC (AH rfl ?_))
  repeat refine nx rfl ?_
  exact AP rfl ⟨congrArg (Value.int .i64) (by rw [hres]; rfl), kW⟩
 obtain ⟨L', ps', v, v', l, m, rfl, rfl, hl, hm, hlm⟩ := hcs.split (by omega)
 obtain ⟨x0, x1, hlt⟩ := hcs.cells
 have hle := hcs.le
 have hlo := hcs.lo
 have hge := hcs.ge
 have hno : ∀ b, (okf b ∧ b < w.heap.size) ∨ (okg b ∧ b < w.heap.size) → b ∉ [gb] := fun b hb hm => by
  have := hlo b hb; simp at hm; omega
 have hlen' := wtSt_len ps'
 rw [Cp] at hres
 rw [BO] at hwt
 simp only [List.length_append, List.length_singleton] at hle ⊢
 simp only at hres hwt
 clear hp0
 (refine AA (Aa rfl (Ap rfl ?_)) <;> (refine W_gtr rfl rfl (fun hc => ?_) (fun hc => ?_) <;> try omega))
 repeat refine nx rfl ?_
 refine AA (Aa rfl (Aa rfl (Ap rfl (W_sub rfl rfl (by first | exact Ao (by omega) (by omega) | exact Au (by omega) (by omega) | exact An (by omega) (by omega)) ?_))))
 refine B7 (k := ps'.length) rfl rfl (by omega) (by omega) ?_
 refine AC (AO rfl ?_)
 repeat refine nx rfl ?_
 cases l with
 | nil =>
  obtain ⟨a0, c0, rfl⟩ := hl.form
  have hl0 : ([] : List Fml).length = 0 := rfl
  (refine AA (AO rfl (AG rfl (AD rfl (AF rfl (by assumption) ?_)))) <;> refine Ap rfl ?_ <;> (refine Bq rfl rfl (fun hc => ?_) (fun hc => ?_) <;> try omega))
  repeat refine nx rfl ?_
  refine AA (Aa rfl (Aa rfl (Ap rfl (W_sub rfl rfl (by first | exact Ao (by omega) (by omega) | exact Au (by omega) (by omega) | exact An (by omega) (by omega)) ?_))))
  refine W_slice_h rfl rfl (by omega) (by omega) ?_
  rw [show ((((ps'.length + 1 : Nat) : Int) - 1).toNat) = ps'.length by omega]
  refine AC (Aa rfl ?_)
  repeat refine nx rfl ?_
  refine ⟨(gb, cap, ps'), ⟨rfl, ⟨rfl, trivial⟩, ⟨⟨_, _, _, hcs.cut⟩, kW, ?_, by simp only; omega⟩⟩, by simp only; rw [BO]; omega⟩
  simp only
  rw [hres]
  rfl
 | cons x l =>
  cases m with
  | nil => simp at hlm
  | cons y m =>
   obtain ⟨bx, ox, cx, rfl, hcx, hx, tx⟩ := hl.cons
   obtain ⟨by', oy, cy, rfl, hcy, hy, ty⟩ := hm.cons
   have hlm' : l.length = m.length := by simpa using hlm
   have hsx := szF_eq x
   simp only [szL] at hwt
   (refine AA (AO rfl (AG rfl (AD rfl (AF rfl (by assumption) ?_)))) <;> refine Ap rfl ?_ <;> (refine Bq rfl rfl (fun hc => ?_) (fun hc => ?_) <;> try omega))
   repeat first | refine nx rfl ?_ | refine nf rfl ?_
   refine A3 (.read 0 (.read 1 (.read 2 (.read 3 (.read 4 (.read 5 (.read 6 (.read 7 (.read 8 (.read 9 (.read 10 (.read 11 .done)))))))))))) BA (by kernel_rfl) (fun wd kd ed => ⟨Ext wd, ?_, ?_⟩)
   ·exact Ext.refl _
   have qx0 : ∀ V, Ext wd V → V.cell? ⟨gb, 0 + ps'.length * 2 + 0, none⟩ = some (.slice (some ⟨bx, ox, none⟩) (l.length + 1) cx) := fun V e => (kd.trans e).cell x0 (by simp)
   have qx1 : ∀ V, Ext wd V → V.cell? ⟨gb, 0 + ps'.length * 2 + 1, none⟩ = some (.slice (some ⟨by', oy, none⟩) (m.length + 1) cy) := fun V e => (kd.trans e).cell x1 (by simp)
   refine D_R rfl rfl (fun W hW => AO rfl Z3) (D_R rfl rfl (fun W hW => AG rfl Z3) (D_R rfl rfl (fun W hW => AD rfl Z3) (D_R rfl rfl (fun W hW => AF rfl (qx0 W hW) Z3) ?_)))
   (apply D_R rfl rfl; (intro W hW; refine B7 (k := 0) rfl rfl rfl (by omega) ?_; exact AJ ⟨rfl, rfl, rfl⟩))
   refine D_R rfl rfl (fun W hW => AO rfl Z3) (D_R rfl rfl (fun W hW => AG rfl Z3) (D_R rfl rfl (fun W hW => AD rfl Z3) (D_R rfl rfl (fun W hW => AF rfl (qx1 W hW) Z3) ?_)))
   (apply D_R rfl rfl; (intro W hW; refine B7 (k := 0) rfl rfl rfl (by omega) ?_; exact AJ ⟨rfl, rfl, rfl⟩))
   refine D_R rfl rfl (fun W hW => AC (AO rfl Z3)) (D_R rfl rfl (fun W hW => AC (AO rfl Z3)) (Ay ?_))
   repeat refine nx rfl ?_
   have kA := kd
   clear kd qx0 qx1
   refine A3 (.read 0 (.read 1 (.read 2 (.read 3 (.read 4 (.read 7 (.read 8 (.read 9 (.alt 5 (.read 6 (.alt 10 (.read 11 (.read 12 (.read 13 (.alt 14 (.read 15 (.read 16 (.alt 17 .done .stop))) .stop)))) .stop)) (.alt 10 (.read 11 (.alt 5 (.read 6 (.read 12 (.read 13 (.alt 14 (.read 15 (.read 16 (.alt 17 .done .stop))) .stop)))) .stop)) .stop)))))))))) BA (by kernel_rfl) (fun wd kd ed => ⟨fun _ => True, ?_, ?_⟩)
   ·trivial
   have kAD := kA.trans kd
   have kD : Keep [gb] W wd := kAD.any
   have bd := hcs.blk.keep kAD (by simp)
   have y0 := kAD.cell x0 (by simp)
   have y1 := kAD.cell x1 (by simp)
   refine D_R rfl rfl (fun W hW => AO rfl Z3) (D_R rfl rfl (fun W hW => AO rfl Z3) (D_R rfl rfl (fun W hW => AO rfl Z3) (D_R rfl rfl (fun W hW => AG rfl Z3) (D_R rfl rfl (fun W hW => AD rfl Z3) (D_R rfl rfl (fun W hW => AO rfl Z3) (D_R rfl rfl (fun W hW => AG rfl Z3) (D_R rfl rfl (fun W hW => AD rfl Z3) ?_)))))))
   refine D_A rfl ?_ (D_E rfl ?_)
   ·refine AF rfl y0 ?_
    refine AJ ⟨_, fun _ h => h, trivial, ?_⟩
    ((apply D_R rfl rfl; (intro W hW; refine Dk rfl rfl (by omega) (by omega) ?_; exact AJ ⟨rfl, rfl, rfl⟩)))
    refine D_E rfl ?_
    refine AF rfl y1 ?_
    refine AJ ⟨_, fun _ h => h, trivial, ?_⟩
    refine D_R rfl rfl (fun W hW => Dk rfl rfl (by omega) (by omega) Z3) (D_R rfl rfl (fun W hW => AG rfl Z3) (D_R rfl rfl (fun W hW => AD rfl Z3) ?_))
    refine D_E rfl ?_
    refine Ah rfl rfl rfl bd (by omega) (fun wA pA => ?_)
    refine AJ ⟨_, fun _ h => h, trivial, ?_⟩
    refine D_R rfl rfl (fun W hW => AG rfl Z3) (D_R rfl rfl (fun W hW => AD rfl Z3) ?_)
    refine D_E rfl ?_
    refine Ah rfl rfl rfl pA.blk (by rw [List.length_set]; omega) (fun wB pB => ?_)
    refine AJ ⟨_, fun _ h => h, trivial, ?_⟩
    refine Ay ?_
    repeat refine nx rfl ?_
    have kB : Keep [gb] W wB := (kD.trans pA.keep (by simp)).trans pB.keep (by simp)
    have hB := hcs.put kB pB.blk (tx.keep kB fun b hb hm => hno b (.inl hb) hm) (ty.keep kB fun b hb hm => hno b (.inr hb) hm) hlm'
    have kWB : Ext w wB := kW.keep kB (by simp; exact hcs.ge)
    have px := hx.keep kB fun b hb hm => hno b (.inl hb) hm
    have py := hy.keep kB fun b hb hm => hno b (.inr hb) hm
    obtain ⟨ca, ta, fa, ha1, ha2, _⟩ := cell_blk px.op
    obtain ⟨cb, tb, fb, hb1, hb2, _⟩ := cell_blk py.op
    have huv : fa = (0, 0) ∨ fb = (0, 0) := by
     rcases hUm with hU | hU
     ·obtain ⟨c1, t1, h1, _⟩ := unm_blk (hU wB kWB bx px.1) px.op
      rw [ha1] at h1; cases h1; exact .inl rfl
     ·obtain ⟨c1, t1, h1, _⟩ := unm_blk (hU wB kWB by' py.1) py.op
      rw [hb1] at h1; cases h1; exact .inr rfl
    refine AA (AO rfl (AO rfl ?_))
    refine W_ptrEq (a := ⟨bx, ox + 0 * 5, none⟩) (b := ⟨by', oy + 0 * 5, none⟩) rfl rfl ha1 hb1 huv ha2 hb2 ?_
    refine AJ ?_
    by_cases hab : (⟨bx, ox + 0 * 5, none⟩ : Addr) = ⟨by', oy + 0 * 5, none⟩
    ·rw [decide_eq_true hab]
     repeat refine nx rfl ?_
     obtain ⟨rfl, rfl⟩ : bx = by' ∧ ox = oy := by
      have := Addr.mk.inj hab
      exact ⟨this.1, by have := this.2.1; omega⟩
     have hxy := px.uniq py
     refine ⟨(gb, cap, ps' ++ [(l, m)]), ⟨rfl, ⟨congrArg (fun n => Value.slice (some ⟨gb, 0, none⟩) n cap) (by simp), trivial⟩, ⟨⟨_, _, _, hB⟩, kWB, ?_, by simp only; rw [BO]; simp only; omega⟩⟩, by simp only; rw [BO, BO]; simp only [szL]; omega⟩
     simp only
     rw [Cp, hres, cmpL_cons0 ((cmpF_zero x y).2 hxy)]
    ·rw [decide_eq_false hab]
     repeat first | refine nx rfl ?_ | refine nf rfl ?_
     refine AA (AO rfl (AO rfl ?_))
     refine AS (cmpNodes_ok wB bx _ by' _ x y (px.mono fun _ _ => trivial) (py.mono fun _ _ => trivial)) rfl ?_
     rintro _ wC ⟨rfl, kC⟩
     refine AC (AH rfl ?_)
     repeat refine nx rfl ?_
     have kWC := kWB.trans kC
     have hC := hB.ext kC
     have pxC := px.keep kC (by simp)
     have pyC := py.keep kC (by simp)
     generalize hcn2 : cmpN x y = cn2
     have hs2 := cmpF_split x y
     rw [hcn2] at hs2
     by_cases hn2 : cn2 = 0
     rotate_left
     ·(refine AA (AH rfl ?_) <;> (refine W_neq rfl rfl (fun hc => ?_) (fun hc => ?_) <;> try omega))
      repeat refine nx rfl ?_
      refine AA (AH rfl (AC (AH rfl ?_)))
      repeat refine nx rfl ?_
      exact AP rfl ⟨congrArg (Value.int .i64) (by rw [hres, cmpL, hs2, Dl, Dl, thenI_ne hn2]), kWC⟩
     rw [CR hn2] at hs2
     have hlxy : x.args.length = y.args.length := by
      unfold cmpN at hcn2
      rw [hn2] at hcn2
      simp only [thenI_zero, cmpI_zero] at hcn2
      omega
     (refine AA (AH rfl ?_) <;> (refine W_neq rfl rfl (fun hc => ?_) (fun hc => ?_) <;> try omega))
     repeat first | refine nx rfl ?_ | refine nf rfl ?_
     obtain ⟨vx, cvx, fvx⟩ := pxC.args
     obtain ⟨vy, cvy, fvy⟩ := pyC.args
     obtain ⟨ax, cxx, rfl⟩ := fvx.form
     obtain ⟨ay, cyy, rfl⟩ := fvy.form
     have cvx' : wC.cell? ⟨bx, ox + 0 * 5 + 4, none⟩ = some (.slice ax x.args.length cxx) := cvx
     have cvy' : wC.cell? ⟨by', oy + 0 * 5 + 4, none⟩ = some (.slice ay y.args.length cyy) := cvy
     by_cases hax : 0 < x.args.length
     ·(refine AA (AO rfl (AG rfl (AD rfl (AF rfl (by assumption) ?_)))) <;> refine Ap rfl ?_ <;> (refine W_gtr rfl rfl (fun hc => ?_) (fun hc => ?_) <;> try omega))
      repeat refine nx rfl ?_
      refine A3 (.read 0 (.read 1 (.read 2 (.read 3 (.read 4 (.read 5 (.read 6 (.read 7 (.read 8 (.read 9 (.alt 10 (.alt 11 (.read 12 .done) .stop) .stop))))))))))) BA (by kernel_rfl) (fun wd kd ed => ⟨Ext w, ?_, ?_⟩)
      ·exact kWC.trans kd
      have qp : ∀ V, Ext w V → V.cell? ⟨bx, ox + 0 * 5 + 4, none⟩ = some (.slice ax x.args.length cxx) := fun V e => cell_same kWC e px.1.2 cvx'
      have qq : ∀ V, Ext w V → V.cell? ⟨by', oy + 0 * 5 + 4, none⟩ = some (.slice ay y.args.length cyy) := fun V e => cell_same kWC e py.1.2 cvy'
      (refine D_R rfl rfl (fun W hW => Aa rfl Z3) (D_R rfl rfl (fun W hW => AO rfl Z3) (D_R rfl rfl (fun W hW => AG rfl Z3) (D_R rfl rfl (fun W hW => AD rfl Z3) (D_R rfl rfl (fun W hW => AF rfl (qp W hW) Z3) (D_R rfl rfl (fun W hW => AO rfl Z3) (D_R rfl rfl (fun W hW => AG rfl Z3) (D_R rfl rfl (fun W hW => AD rfl Z3) (D_R rfl rfl (fun W hW => AF rfl (qq W hW) Z3) ?_)))))))) <;> (apply D_R rfl rfl; (intro W hW; refine Af (by rfl) (by rfl) ?_; exact Z3)))
      refine D_E rfl ?_
      refine AW (out := [.slice ax x.args.length cxx, .slice ay y.args.length cyy]) rfl (by omega) (by kernel_rfl) (fun wE nE => ?_)
      have kCE := kd.trans nE.keep
      have kWE := kWC.trans kCE
      have hE := hC.ext kCE
      refine AJ ⟨Ext w, fun _ e => e, kWE, ?_⟩
      have hps : (ps' ++ [(l, m)]).length = ps'.length + 1 := by simp
      refine D_E rfl ?_
      refine W_append1 (size := 2) (n := ps'.length + 1) (cap := cap) (g := gb) (sv := .slice (some ⟨wd.heap.size, 0, none⟩) 1 1) (ok := A1) (cs := [.slice ax x.args.length cxx, .slice ay y.args.length cyy]) rfl rfl hE.blk (by rw [List.size_toArray]; exact hE.len) (by omega) hE.mx
       ⟨_, _, rfl, by omega, by omega, (fun h => by cases h), .inr ⟨_, _, rfl, trivial, nE.blk.cells⟩⟩ (by decide) rfl rfl (by intro u hu; simp at hu; rcases hu with rfl | rfl <;> rfl) (by omega) (by omega) (fun g2 cap2 e2 cur2 wF hg2 hb2' hs2' hle2 hm2 ht2 kF => ?_)
      have hF := hE.push kWE.size hg2 hb2' hs2' hm2 (by rw [hps]; simpa using ht2) kF (fvx.keep (kCE.any.trans kF (by simp)) fun b hb hm => hno b (.inl hb) hm) (fvy.keep (kCE.any.trans kF (by simp)) fun b hb hm => hno b (.inr hb) hm) hlxy
      have kWF := kWE.keep kF (by simp; exact hge)
      refine AJ ⟨Ext w, fun _ e => e, kWF, ?_⟩
      refine D_R rfl rfl (fun W hW => AC (Aa rfl Z3)) (Ay ?_)
      repeat refine nx rfl ?_
      refine ⟨(g2, cap2, ps' ++ [(l, m)] ++ [(x.args, y.args)]), ⟨rfl, ⟨congrArg (fun n => Value.slice (some ⟨g2, 0, none⟩) n cap2) (by simp), trivial⟩, ⟨⟨_, _, _, hF⟩, kWF, ?_, by simp only; rw [BO, BO]; simp only; omega⟩⟩, by simp only; rw [BO, BO, BO]; simp only [szL]; omega⟩
      simp only
      rw [Cp, Cp, hres, cmpL, hs2, Dl]
     ·(refine AA (AO rfl (AG rfl (AD rfl (AF rfl (by assumption) ?_)))) <;> refine Ap rfl ?_ <;> (refine W_gtr rfl rfl (fun hc => ?_) (fun hc => ?_) <;> try omega))
      repeat first | refine nx rfl ?_ | refine nf rfl ?_
      have ex : x.args = [] := List.length_eq_zero_iff.1 (by omega)
      have ez : cmpF x y = 0 := by rw [hs2, ex]; cases y.args <;> rfl
      refine ⟨(gb, cap, ps' ++ [(l, m)]), ⟨rfl, ⟨congrArg (fun n => Value.slice (some ⟨gb, 0, none⟩) n cap) (by simp), trivial⟩, ⟨⟨_, _, _, hC⟩, kWC, ?_, by simp only; rw [BO]; simp only; omega⟩⟩, by simp only; rw [BO, BO]; simp only [szL]; omega⟩
      simp only
      rw [Cp, hres, cmpL_cons0 ez]
   ·refine AF rfl y1 ?_
    refine AJ ⟨_, fun _ h => h, trivial, ?_⟩
    ((apply D_R rfl rfl; (intro W hW; refine Dk rfl rfl (by omega) (by omega) ?_; exact AJ ⟨rfl, rfl, rfl⟩)))
    refine D_E rfl ?_
    refine AF rfl y0 ?_
    refine AJ ⟨_, fun _ h => h, trivial, ?_⟩
    refine D_R rfl rfl (fun W hW => Dk rfl rfl (by omega) (by omega) Z3) (D_R rfl rfl (fun W hW => AG rfl Z3) (D_R rfl rfl (fun W hW => AD rfl Z3) ?_))
    refine D_E rfl ?_
    refine Ah rfl rfl rfl bd (by omega) (fun wA pA => ?_)
    refine AJ ⟨_, fun _ h => h, trivial, ?_⟩
    refine D_R rfl rfl (fun W hW => AG rfl Z3) (D_R rfl rfl (fun W hW => AD rfl Z3) ?_)
    refine D_E rfl ?_
    refine Ah rfl rfl rfl pA.blk (by rw [List.length_set]; omega) (fun wB pB => ?_)
    refine AJ ⟨_, fun _ h => h, trivial, ?_⟩
    refine Ay ?_
    repeat refine nx rfl ?_
    have kB : Keep [gb] W wB := (kD.trans pA.keep (by simp)).trans pB.keep (by simp)
    have hB := hcs.put kB pB.blk (tx.keep kB fun b hb hm => hno b (.inl hb) hm) (ty.keep kB fun b hb hm => hno b (.inr hb) hm) hlm'
    have kWB : Ext w wB := kW.keep kB (by simp; exact hcs.ge)
    have px := hx.keep kB fun b hb hm => hno b (.inl hb) hm
    have py := hy.keep kB fun b hb hm => hno b (.inr hb) hm
    obtain ⟨ca, ta, fa, ha1, ha2, _⟩ := cell_blk px.op
    obtain ⟨cb, tb, fb, hb1, hb2, _⟩ := cell_blk py.op
    have huv : fa = (0, 0) ∨ fb = (0, 0) := by
     rcases hUm with hU | hU
     ·obtain ⟨c1, t1, h1, _⟩ := unm_blk (hU wB kWB bx px.1) px.op
      rw [ha1] at h1; cases h1; exact .inl rfl
     ·obtain ⟨c1, t1, h1, _⟩ := unm_blk (hU wB kWB by' py.1) py.op
      rw [hb1] at h1; cases h1; exact .inr rfl
    refine AA (AO rfl (AO rfl ?_))
    refine W_ptrEq (a := ⟨bx, ox + 0 * 5, none⟩) (b := ⟨by', oy + 0 * 5, none⟩) rfl rfl ha1 hb1 huv ha2 hb2 ?_
    refine AJ ?_
    by_cases hab : (⟨bx, ox + 0 * 5, none⟩ : Addr) = ⟨by', oy + 0 * 5, none⟩
    ·rw [decide_eq_true hab]
     repeat refine nx rfl ?_
     obtain ⟨rfl, rfl⟩ : bx = by' ∧ ox = oy := by
      have := Addr.mk.inj hab
      exact ⟨this.1, by have := this.2.1; omega⟩
     have hxy := px.uniq py
     refine ⟨(gb, cap, ps' ++ [(l, m)]), ⟨rfl, ⟨congrArg (fun n => Value.slice (some ⟨gb, 0, none⟩) n cap) (by simp), trivial⟩, ⟨⟨_, _, _, hB⟩, kWB, ?_, by simp only; rw [BO]; simp only; omega⟩⟩, by simp only; rw [BO, BO]; simp only [szL]; omega⟩
     simp only
     rw [Cp, hres, cmpL_cons0 ((cmpF_zero x y).2 hxy)]
    ·rw [decide_eq_false hab]
     repeat first | refine nx rfl ?_ | refine nf rfl ?_
     refine AA (AO rfl (AO rfl ?_))
     refine AS (cmpNodes_ok wB bx _ by' _ x y (px.mono fun _ _ => trivial) (py.mono fun _ _ => trivial)) rfl ?_
     rintro _ wC ⟨rfl, kC⟩
     refine AC (AH rfl ?_)
     repeat refine nx rfl ?_
     have kWC := kWB.trans kC
     have hC := hB.ext kC
     have pxC := px.keep kC (by simp)
     have pyC := py.keep kC (by simp)
     generalize hcn2 : cmpN x y = cn2
     have hs2 := cmpF_split x y
     rw [hcn2] at hs2
     by_cases hn2 : cn2 = 0
     rotate_left
     ·(refine AA (AH rfl ?_) <;> (refine W_neq rfl rfl (fun hc => ?_) (fun hc => ?_) <;> try omega))
      repeat refine nx rfl ?_
      refine AA (AH rfl (AC (AH rfl ?_)))
      repeat refine nx rfl ?_
      exact AP rfl ⟨congrArg (Value.int .i64) (by rw [hres, cmpL, hs2, Dl, Dl, thenI_ne hn2]), kWC⟩
     rw [CR hn2] at hs2
     have hlxy : x.args.length = y.args.length := by
      unfold cmpN at hcn2
      rw [hn2] at hcn2
      simp only [thenI_zero, cmpI_zero] at hcn2
      omega
     (refine AA (AH rfl ?_) <;> (refine W_neq rfl rfl (fun hc => ?_) (fun hc => ?_) <;> try omega))
     repeat first | refine nx rfl ?_ | refine nf rfl ?_
     obtain ⟨vx, cvx, fvx⟩ := pxC.args
     obtain ⟨vy, cvy, fvy⟩ := pyC.args
     obtain ⟨ax, cxx, rfl⟩ := fvx.form
     obtain ⟨ay, cyy, rfl⟩ := fvy.form
     have cvx' : wC.cell? ⟨bx, ox + 0 * 5 + 4, none⟩ = some (.slice ax x.args.length cxx) := cvx
     have cvy' : wC.cell? ⟨by', oy + 0 * 5 + 4, none⟩ = some (.slice ay y.args.length cyy) := cvy
     by_cases hax : 0 < x.args.length
     ·(refine AA (AO rfl (AG rfl (AD rfl (AF rfl (by assumption) ?_)))) <;> refine Ap rfl ?_ <;> (refine W_gtr rfl rfl (fun hc => ?_) (fun hc => ?_) <;> try omega))
      repeat refine nx rfl ?_
      refine A3 (.read 0 (.read 1 (.read 2 (.read 3 (.read 4 (.read 5 (.read 6 (.read 7 (.read 8 (.read 9 (.alt 10 (.alt 11 (.read 12 .done) .stop) .stop))))))))))) BA (by kernel_rfl) (fun wd kd ed => ⟨Ext w, ?_, ?_⟩)
      ·exact kWC.trans kd
      have qp : ∀ V, Ext w V → V.cell? ⟨bx, ox + 0 * 5 + 4, none⟩ = some (.slice ax x.args.length cxx) := fun V e => cell_same kWC e px.1.2 cvx'
      have qq : ∀ V, Ext w V → V.cell? ⟨by', oy + 0 * 5 + 4, none⟩ = some (.slice ay y.args.length cyy) := fun V e => cell_same kWC e py.1.2 cvy'
      (refine D_R rfl rfl (fun W hW => Aa rfl Z3) (D_R rfl rfl (fun W hW => AO rfl Z3) (D_R rfl rfl (fun W hW => AG rfl Z3) (D_R rfl rfl (fun W hW => AD rfl Z3) (D_R rfl rfl (fun W hW => AF rfl (qp W hW) Z3) (D_R rfl rfl (fun W hW => AO rfl Z3) (D_R rfl rfl (fun W hW => AG rfl Z3) (D_R rfl rfl (fun W hW => AD rfl Z3) (D_R rfl rfl (fun W hW => AF rfl (qq W hW) Z3) ?_)))))))) <;> (apply D_R rfl rfl; (intro W hW; refine Af (by rfl) (by rfl) ?_; exact Z3)))
      refine D_E rfl ?_
      refine AW (out := [.slice ax x.args.length cxx, .slice ay y.args.length cyy]) rfl (by omega) (by kernel_rfl) (fun wE nE => ?_)
      have kCE := kd.trans nE.keep
      have kWE := kWC.trans kCE
      have hE := hC.ext kCE
      refine AJ ⟨Ext w, fun _ e => e, kWE, ?_⟩
      have hps : (ps' ++ [(l, m)]).length = ps'.length + 1 := by simp
      refine D_E rfl ?_
      refine W_append1 (size := 2) (n := ps'.length + 1) (cap := cap) (g := gb) (sv := .slice (some ⟨wd.heap.size, 0, none⟩) 1 1) (ok := A1) (cs := [.slice ax x.args.length cxx, .slice ay y.args.length cyy]) rfl rfl hE.blk (by rw [List.size_toArray]; exact hE.len) (by omega) hE.mx
       ⟨_, _, rfl, by omega, by omega, (fun h => by cases h), .inr ⟨_, _, rfl, trivial, nE.blk.cells⟩⟩ (by decide) rfl rfl (by intro u hu; simp at hu; rcases hu with rfl | rfl <;> rfl) (by omega) (by omega) (fun g2 cap2 e2 cur2 wF hg2 hb2' hs2' hle2 hm2 ht2 kF => ?_)
      have hF := hE.push kWE.size hg2 hb2' hs2' hm2 (by rw [hps]; simpa using ht2) kF (fvx.keep (kCE.any.trans kF (by simp)) fun b hb hm => hno b (.inl hb) hm) (fvy.keep (kCE.any.trans kF (by simp)) fun b hb hm => hno b (.inr hb) hm) hlxy
      have kWF := kWE.keep kF (by simp; exact hge)
      refine AJ ⟨Ext w, fun _ e => e, kWF, ?_⟩
      refine D_R rfl rfl (fun W hW => AC (Aa rfl Z3)) (Ay ?_)
      repeat refine nx rfl ?_
      refine ⟨(g2, cap2, ps' ++ [(l, m)] ++ [(x.args, y.args)]), ⟨rfl, ⟨congrArg (fun n => Value.slice (some ⟨g2, 0, none⟩) n cap2) (by simp), trivial⟩, ⟨⟨_, _, _, hF⟩, kWF, ?_, by simp only; rw [BO, BO]; simp only; omega⟩⟩, by simp only; rw [BO, BO, BO]; simp only [szL]; omega⟩
      simp only
      rw [Cp, Cp, hres, cmpL, hs2, Dl]
     ·(refine AA (AO rfl (AG rfl (AD rfl (AF rfl (by assumption) ?_)))) <;> refine Ap rfl ?_ <;> (refine W_gtr rfl rfl (fun hc => ?_) (fun hc => ?_) <;> try omega))
      repeat first | refine nx rfl ?_ | refine nf rfl ?_
      have ex : x.args = [] := List.length_eq_zero_iff.1 (by omega)
      have ez : cmpF x y = 0 := by rw [hs2, ex]; cases y.args <;> rfl
      refine ⟨(gb, cap, ps' ++ [(l, m)]), ⟨rfl, ⟨congrArg (fun n => Value.slice (some ⟨gb, 0, none⟩) n cap) (by simp), trivial⟩, ⟨⟨_, _, _, hC⟩, kWC, ?_, by simp only; rw [BO]; simp only; omega⟩⟩, by simp only; rw [BO, BO]; simp only [szL]; omega⟩
      simp only
      rw [Cp, hres, cmpL_cons0 ez]
end Go.Proofs.YtfcgdbmoncnibaaGreatDoor
namespace Go.Proofs.YtfcgdbmoncnibaaGreatDoor
open Go.RowKit
set_option linter.unusedVariables false
variable {mk : Prop} [MK mk]
theorem gap_ok (t : List UInt8) (w : World) (hl : t.length ≤ 1000000) : Fn Tryz.prog 99 [AK t] w fun v w' => v = .int .i64 (gapW t 0 : Int) ∧ w' = w := by
 refine Ae Tryz.func99 rfl Tryz.ntmps99 (Nat.le_of_ble_eq_true rfl) (by kernel_rfl) ?_
 repeat refine nx rfl ?_
 refine AA (AC (AH rfl ?_))
 repeat refine nx rfl ?_
 refine AA (AC (AH rfl ?_))
 repeat refine nx rfl ?_
 refine BN (α := Nat) (fun a => [(0, AK t), (3, .int .i64 (a : Int))]) (fun a w1 => a ≤ t.length ∧ gapW t a = gapW t 0 ∧ w1 = w) (fun a => t.length - a) 0 ⟨rfl, rfl, trivial⟩ ⟨by omega, rfl, rfl⟩ ?_
 rintro a w1 f1 ⟨ha, hg, rfl⟩
 repeat refine nx rfl ?_
 by_cases hlt : a < t.length
 ·have hc0 : t[a]? = some t[a] := List.getElem?_eq_getElem hlt
  generalize t[a] = c at hc0
  rw [gapW_step hc0] at hg
  refine AA (AH rfl (AU rfl (Aw rfl (BG rfl rfl (by omega) ?_))))
  repeat refine nx rfl ?_
  by_cases h37 : c.toNat = 37
  ·rw [if_pos h37] at hg
   (refine AA (AU rfl (AH rfl (BE rfl rfl (by assumption) ?_))) <;> refine At rfl rfl (by omega) ?_)
   repeat refine nx rfl ?_
   have hle := Bp (p := BP) (t := t) (a := a) (by omega)
   have hst := Bg (p := BP) hc0 (by simp [BP, h37])
   have hge := By BP t (a + 1)
   refine BN (α := Nat) (fun j => [(0, AK t), (3, .int .i64 (j : Int))]) (fun j w2 => j ≤ t.length ∧ Ak BP t j = Ak BP t a ∧ w2 = w1) (fun j => t.length - j) a ⟨rfl, rfl, trivial⟩ ⟨by omega, rfl, rfl⟩ ?_
   rintro j w2 f2 ⟨hj, hw, rfl⟩
   repeat refine nx rfl ?_
   by_cases hjl : j < t.length
   ·have hcj : t[j]? = some t[j] := List.getElem?_eq_getElem hjl
    generalize t[j] = d at hcj
    by_cases h10 : d.toNat = 10
    ·(refine AA (AH rfl (AU rfl (Aw rfl (BG rfl rfl (by omega) (AB rfl (AE rfl (AU rfl (AE rfl (AH rfl (AE rfl (BE rfl rfl (by assumption) ?_))))))))))) <;> refine AE rfl (Di rfl rfl (by omega) (AL rfl (AB rfl ?_))))
     repeat first | refine nx rfl ?_ | refine nf rfl ?_
     have hjw := whileB_stop (p := BP) hcj (by simp [BP, h10])
     exact ⟨j, ⟨rfl, ⟨rfl, rfl, trivial⟩, ⟨hj, by rw [← hg, ← hw, hjw], rfl⟩⟩, by omega⟩
    ·(refine AA (AH rfl (AU rfl (Aw rfl (BG rfl rfl (by omega) (AB rfl (AE rfl (AU rfl (AE rfl (AH rfl (AE rfl (BE rfl rfl (by assumption) ?_))))))))))) <;> refine AE rfl (W_neqT rfl rfl (by omega) (AL rfl (AB rfl ?_))))
     repeat refine nx rfl ?_
     (refine AA (AH rfl (BU rfl rfl (by first | exact Ao (by omega) (by omega) | exact Au (by omega) (by omega) | exact An (by omega) (by omega)) ?_)) <;> refine AC (AH rfl ?_))
     repeat refine nx rfl ?_
     have hjw := Bg (p := BP) hcj (by simp [BP, h10])
     refine ⟨j + 1, ⟨rfl, ⟨rfl, ?_, trivial⟩, ⟨by omega, by rw [← hw, hjw], rfl⟩⟩, by omega⟩
     show Value.int .i64 ((j : Int) + 1) = _
     rw [Int.natCast_add]; rfl
   ·refine AA (AH rfl (AU rfl (Aw rfl (BH rfl rfl (by omega) (AB rfl (AI rfl (AI rfl (AI rfl (AI rfl (AN rfl (AB rfl ?_)))))))))))
    repeat first | refine nx rfl ?_ | refine nf rfl ?_
    have hjw := whileB_end (p := BP) (t := t) (a := j) (by omega)
    exact ⟨j, ⟨rfl, ⟨rfl, rfl, trivial⟩, ⟨hj, by rw [← hg, ← hw, hjw], rfl⟩⟩, by omega⟩
  ·rw [if_neg h37] at hg
   (refine AA (AU rfl (AH rfl (BE rfl rfl (by assumption) ?_))) <;> refine AQ rfl rfl (by omega) ?_)
   repeat first | refine nx rfl ?_ | refine nf rfl ?_
   refine AA (AU rfl (AH rfl (BE rfl rfl (by assumption) ?_)))
   refine AS (blankB_ok c _) rfl ?_
   rintro v w2 ⟨rfl, rfl⟩
   refine AJ ?_
   cases hb : isBlank c with
   | true =>
    rw [if_pos hb] at hg
    repeat refine nx rfl ?_
    (refine AA (AH rfl (BU rfl rfl (by first | exact Ao (by omega) (by omega) | exact Au (by omega) (by omega) | exact An (by omega) (by omega)) ?_)) <;> refine AC (AH rfl ?_))
    repeat refine nx rfl ?_
    refine ⟨a + 1, ⟨rfl, ⟨rfl, ?_, trivial⟩, ⟨by omega, hg, rfl⟩⟩, by omega⟩
    show Value.int .i64 ((a : Int) + 1) = _
    rw [Int.natCast_add]; rfl
   | false =>
    rw [hb, if_neg (by simp)] at hg
    repeat first | refine nx rfl ?_ | refine nf rfl ?_
    refine AA (AH rfl (AC (AH rfl ?_)))
    repeat refine nx rfl ?_
    exact AP rfl ⟨by rw [← hg]; rfl, rfl⟩
 ·obtain rfl : a = t.length := by omega
  refine AA (AH rfl (AU rfl (Aw rfl (BH rfl rfl (by omega) ?_))))
  repeat first | refine nx rfl ?_ | refine nf rfl ?_
  refine AA (AH rfl (AC (AH rfl ?_)))
  repeat refine nx rfl ?_
  exact AP rfl ⟨by rw [← hg, gapW_end]; rfl, rfl⟩
end Go.Proofs.YtfcgdbmoncnibaaGreatDoor
namespace Go.Proofs.YtfcgdbmoncnibaaGreatDoor
open Go.RowKit
set_option linter.unusedVariables false
variable {mk : Prop} [MK mk]
theorem rlow_ok : Test 137 A9 := by
 intro c w
 refine Ae Tryz.func137 rfl Tryz.ntmps137 (Nat.le_of_ble_eq_true rfl) (by kernel_rfl) ?_
 repeat refine nx rfl ?_
 refine AA (AC (AB rfl ?_))
 repeat refine nx rfl ?_
 (refine AA (AH rfl ?_) <;> (refine W_geq rfl rfl (fun hc => ?_) (fun hc => ?_) <;> try omega) <;> refine AB rfl ?_ <;> (first | refine AI rfl ?_ | (refine AE rfl ?_; refine AH rfl ?_)) <;> (first | refine AI rfl ?_ | (refine AE rfl ?_; (refine W_leq rfl rfl (fun hc => ?_) (fun hc => ?_) <;> try omega))) <;> ((first | refine AL rfl ?_ | refine AN rfl ?_); refine AB rfl ?_) <;> refine AC (AB rfl (AJ ?_)))
 all_goals
  repeat refine nx rfl ?_
  exact AP rfl ⟨by simp [A9, upd, Nat.beq]; omega, rfl⟩
theorem rbig_ok : Test 134 isUp := by
 intro c w
 refine Ae Tryz.func134 rfl Tryz.ntmps134 (Nat.le_of_ble_eq_true rfl) (by kernel_rfl) ?_
 repeat refine nx rfl ?_
 refine AA (AC (AB rfl ?_))
 repeat refine nx rfl ?_
 (refine AA (AH rfl ?_) <;> (refine W_geq rfl rfl (fun hc => ?_) (fun hc => ?_) <;> try omega) <;> refine AB rfl ?_ <;> (first | refine AI rfl ?_ | (refine AE rfl ?_; refine AH rfl ?_)) <;> (first | refine AI rfl ?_ | (refine AE rfl ?_; (refine W_leq rfl rfl (fun hc => ?_) (fun hc => ?_) <;> try omega))) <;> ((first | refine AL rfl ?_ | refine AN rfl ?_); refine AB rfl ?_) <;> refine AC (AB rfl (AJ ?_)))
 all_goals
  repeat refine nx rfl ?_
  exact AP rfl ⟨by simp [isUp, upd, Nat.beq]; omega, rfl⟩
theorem rdig_ok : Test 136 Aq := by
 intro c w
 refine Ae Tryz.func136 rfl Tryz.ntmps136 (Nat.le_of_ble_eq_true rfl) (by kernel_rfl) ?_
 repeat refine nx rfl ?_
 refine AA (AC (AB rfl ?_))
 repeat refine nx rfl ?_
 (refine AA (AH rfl ?_) <;> (refine W_geq rfl rfl (fun hc => ?_) (fun hc => ?_) <;> try omega) <;> refine AB rfl ?_ <;> (first | refine AI rfl ?_ | (refine AE rfl ?_; refine AH rfl ?_)) <;> (first | refine AI rfl ?_ | (refine AE rfl ?_; (refine W_leq rfl rfl (fun hc => ?_) (fun hc => ?_) <;> try omega))) <;> ((first | refine AL rfl ?_ | refine AN rfl ?_); refine AB rfl ?_) <;> refine AC (AB rfl (AJ ?_)))
 all_goals
  repeat refine nx rfl ?_
  exact AP rfl ⟨by simp [Aq, upd, Nat.beq]; omega, rfl⟩
theorem rpart_ok : Test 135 BF := by
 intro c w
 refine Ae Tryz.func135 rfl Tryz.ntmps135 (Nat.le_of_ble_eq_true rfl) (by kernel_rfl) ?_
 repeat refine nx rfl ?_
 refine AA (AC (AB rfl ?_))
 repeat refine nx rfl ?_
 refine AA (AH rfl ?_)
 refine AS (rlow_ok c w) rfl ?_
 rintro v w' ⟨rfl, rfl⟩
 cases hs : A9 c with
 | true =>
  refine AB rfl (AI rfl (AI rfl (AL rfl (AB rfl (AB rfl (AI rfl (AI rfl (AL rfl (AB rfl (AC (AB rfl (AJ ?_))))))))))))
  all_goals
   repeat refine nx rfl ?_
   exact AP rfl ⟨by simp [BF, hs, upd, Nat.beq], rfl⟩
 | false =>
  refine AB rfl (AE rfl (AH rfl ?_))
  refine AE rfl ?_
  refine AS (rdig_ok c _) rfl ?_
  rintro v w' ⟨rfl, rfl⟩
  cases hd : Aq c with
  | true =>
   refine AN rfl (AB rfl (AB rfl (AI rfl (AI rfl (AL rfl (AB rfl (AC (AB rfl (AJ ?_)))))))))
   all_goals
    repeat refine nx rfl ?_
    exact AP rfl ⟨by simp [BF, hs, hd, upd, Nat.beq], rfl⟩
  | false =>
   (refine AN rfl (AB rfl (AB rfl (AE rfl (AH rfl ?_)))) <;> (refine AE rfl ?_; (refine Bq rfl rfl (fun hc => ?_) (fun hc => ?_) <;> try omega)) <;> refine AN rfl (AB rfl (AC (AB rfl (AJ ?_)))))
   all_goals
    repeat refine nx rfl ?_
    exact AP rfl ⟨by simp [BF, hs, hd, upd, Nat.beq]; omega, rfl⟩
theorem rsymbols_ok (w : World) : Fn Tryz.prog 156 [] w fun v w' => v = .slice (some ⟨w.heap.size, 0, none⟩) 15 15 ∧ Ext w w' ∧ Cells w' w.heap.size 0 symC := by
 refine Ae Tryz.func156 rfl Tryz.ntmps156 (Nat.le_of_ble_eq_true rfl) (by kernel_rfl) ?_
 repeat refine nx rfl ?_
 refine AA (AC (Aa rfl ?_))
 repeat refine nx rfl ?_
 refine AA ?_
 refine W_buildSlice1 (out := symC) rfl (by omega) rfl (by kernel_rfl) (fun w2 n2 => ?_)
 refine AC (Aa rfl ?_)
 repeat refine nx rfl ?_
 exact AP rfl ⟨rfl, n2.keep, n2.blk.cells⟩
def symW (u : List UInt8) : List UInt8 := (symsL.find? (Bt u)).getD []
theorem rsymbol_ok (u : List UInt8) (w : World) : Fn Tryz.prog 138 [AK u] w fun v w' => v = AK (symW u) ∧ Ext w w' := by
 refine Ae Tryz.func138 rfl Tryz.ntmps138 (Nat.le_of_ble_eq_true rfl) (by kernel_rfl) ?_
 repeat refine nx rfl ?_
 refine AA (AC (AU rfl ?_))
 repeat refine nx rfl ?_
 refine AA ?_
 refine AS (rsymbols_ok w) rfl ?_
 rintro v w1 ⟨rfl, k1, hC⟩
 refine AC (Aa rfl ?_)
 repeat refine nx rfl ?_
 refine AA (AC (AH rfl ?_))
 repeat refine nx rfl ?_
 refine BN (α := Nat) (fun k => [(0, AK u), (3, .slice (some ⟨w.heap.size, 0, none⟩) 15 15), (4, .int .i64 (k : Int))]) (fun k w2 => k ≤ 15 ∧ Ext w1 w2 ∧ symsL.find? (Bt u) = (symsL.drop k).find? (Bt u)) (fun k => 15 - k) 0 ⟨rfl, rfl, rfl, trivial⟩ ⟨by omega, Ext.refl _, rfl⟩ ?_
 rintro k w2 f' ⟨hk, k2, hf⟩
 repeat refine nx rfl ?_
 by_cases hlt : k < 15
 ·obtain ⟨y, hy⟩ : ∃ y, symsL[k]? = some y := ⟨_, List.getElem?_eq_getElem (by show k < 15; exact hlt)⟩
  have hyc : symC[k]? = some (AK y) := by unfold symC; rw [List.getElem?_map, hy]; rfl
  rw [find_step hy] at hf
  refine AA (AH rfl (Aa rfl (Ap rfl (BG rfl rfl (by omega) ?_))))
  repeat refine nx rfl ?_
  refine A3 (.read 0 (.read 1 (.read 2 (.read 3 (.read 4 (.read 5 (.read 6 (.read 7 (.read 8 (.read 9 (.read 10 (.read 11 (.read 12 (.read 13 (.read 14 (.read 15 (.read 16 (.read 17 (.read 18 (.read 19 (.read 20 (.read 21 .done)))))))))))))))))))))) BA (by kernel_rfl) (fun wd kd ed => ⟨fun W => W = wd, ?_, ?_⟩)
  ·rfl
  have hcell : wd.cell? ⟨w.heap.size, 0 + k, none⟩ = some (AK y) := ((hC.keep k2 (by simp)).keep kd (by simp)) k _ hyc
  by_cases hl : y.length ≤ u.length
  ·by_cases he : u.take y.length = y
   ·have hp : Bt u y = true := by simp [Bt, hl, he]
    ((apply D_R rfl rfl; (intro W hW; subst hW; refine AU rfl ?_; exact Z3)) <;> (apply D_R rfl rfl; (intro W hW; subst hW; refine Aw rfl ?_; exact Z3)) <;> (apply D_R rfl rfl; (intro W hW; subst hW; refine Aa rfl ?_; exact Z3)) <;> (apply D_R rfl rfl; (intro W hW; subst hW; refine AH rfl ?_; exact Z3)) <;> (apply D_R rfl rfl; (intro W hW; subst hW; refine W_idx1 rfl rfl rfl (by omega) ?_; exact Z3)) <;> (apply D_R rfl rfl; (intro W hW; subst hW; refine AF rfl (by assumption) ?_; exact Z3)) <;> (apply D_R rfl rfl; (intro W hW; subst hW; refine Aw rfl ?_; exact Z3)) <;> refine D_geqT rfl rfl rfl rfl (by omega) ?_ <;> (apply D_R rfl rfl; (intro W hW; subst hW; refine AB rfl ?_; exact Z3)) <;> (apply D_R rfl rfl; (intro W hW; subst hW; (refine AE rfl ?_; refine AU rfl ?_); exact Z3)) <;> (apply D_R rfl rfl; (intro W hW; subst hW; (refine AE rfl ?_; refine Aa rfl ?_); exact Z3)) <;> (apply D_R rfl rfl; (intro W hW; subst hW; (refine AE rfl ?_; refine AH rfl ?_); exact Z3)) <;> (apply D_R rfl rfl; (intro W hW; subst hW; (refine AE rfl ?_; refine W_idx1 rfl rfl rfl (by omega) ?_); exact Z3)) <;> (apply D_R rfl rfl; (intro W hW; subst hW; (refine AE rfl ?_; refine AF rfl (by assumption) ?_); exact Z3)) <;> (apply D_R rfl rfl; (intro W hW; subst hW; (refine AE rfl ?_; refine Aw rfl ?_); exact Z3)) <;> (apply D_R rfl rfl; (intro W hW; subst hW; (refine AE rfl ?_; refine Co rfl rfl (by omega) ?_); exact Z3)) <;> (apply D_R rfl rfl; (intro W hW; subst hW; (refine AE rfl ?_; refine Aa rfl ?_); exact Z3)) <;> (apply D_R rfl rfl; (intro W hW; subst hW; (refine AE rfl ?_; refine AH rfl ?_); exact Z3)) <;> (apply D_R rfl rfl; (intro W hW; subst hW; (refine AE rfl ?_; refine W_idx1 rfl rfl rfl (by omega) ?_); exact Z3)) <;> (apply D_R rfl rfl; (intro W hW; subst hW; (refine AE rfl ?_; refine AF rfl (by assumption) ?_); exact Z3)) <;> (refine D_seql rfl rfl rfl rfl (fun hc => ?_) (fun hc => ?_)) <;> (apply D_R rfl rfl; (intro W hW; subst hW; (refine AL rfl ?_; refine AB rfl ?_); exact Z3)) <;> refine Ay ?_)
    ·repeat refine nx rfl ?_
     have hcell' : wd.cell? ⟨w.heap.size, 0 + k, none⟩ = some (AK y) := hcell
     (refine AA (Aa rfl (AH rfl (W_idx1 rfl rfl rfl (by omega) (AF rfl (by assumption) ?_)))) <;> refine AC (AU rfl ?_))
     repeat refine nx rfl ?_
     rw [hp, if_pos rfl] at hf
     exact AP rfl ⟨by unfold symW; rw [hf]; rfl, (k1.trans k2).trans kd⟩
    ·exact absurd he (by assumption)
   ·have hp : Bt u y = false := by simp [Bt, he]
    rw [hp, if_neg (by simp)] at hf
    ((apply D_R rfl rfl; (intro W hW; subst hW; refine AU rfl ?_; exact Z3)) <;> (apply D_R rfl rfl; (intro W hW; subst hW; refine Aw rfl ?_; exact Z3)) <;> (apply D_R rfl rfl; (intro W hW; subst hW; refine Aa rfl ?_; exact Z3)) <;> (apply D_R rfl rfl; (intro W hW; subst hW; refine AH rfl ?_; exact Z3)) <;> (apply D_R rfl rfl; (intro W hW; subst hW; refine W_idx1 rfl rfl rfl (by omega) ?_; exact Z3)) <;> (apply D_R rfl rfl; (intro W hW; subst hW; refine AF rfl (by assumption) ?_; exact Z3)) <;> (apply D_R rfl rfl; (intro W hW; subst hW; refine Aw rfl ?_; exact Z3)) <;> refine D_geqT rfl rfl rfl rfl (by omega) ?_ <;> (apply D_R rfl rfl; (intro W hW; subst hW; refine AB rfl ?_; exact Z3)) <;> (apply D_R rfl rfl; (intro W hW; subst hW; (refine AE rfl ?_; refine AU rfl ?_); exact Z3)) <;> (apply D_R rfl rfl; (intro W hW; subst hW; (refine AE rfl ?_; refine Aa rfl ?_); exact Z3)) <;> (apply D_R rfl rfl; (intro W hW; subst hW; (refine AE rfl ?_; refine AH rfl ?_); exact Z3)) <;> (apply D_R rfl rfl; (intro W hW; subst hW; (refine AE rfl ?_; refine W_idx1 rfl rfl rfl (by omega) ?_); exact Z3)) <;> (apply D_R rfl rfl; (intro W hW; subst hW; (refine AE rfl ?_; refine AF rfl (by assumption) ?_); exact Z3)) <;> (apply D_R rfl rfl; (intro W hW; subst hW; (refine AE rfl ?_; refine Aw rfl ?_); exact Z3)) <;> (apply D_R rfl rfl; (intro W hW; subst hW; (refine AE rfl ?_; refine Co rfl rfl (by omega) ?_); exact Z3)) <;> (apply D_R rfl rfl; (intro W hW; subst hW; (refine AE rfl ?_; refine Aa rfl ?_); exact Z3)) <;> (apply D_R rfl rfl; (intro W hW; subst hW; (refine AE rfl ?_; refine AH rfl ?_); exact Z3)) <;> (apply D_R rfl rfl; (intro W hW; subst hW; (refine AE rfl ?_; refine W_idx1 rfl rfl rfl (by omega) ?_); exact Z3)) <;> (apply D_R rfl rfl; (intro W hW; subst hW; (refine AE rfl ?_; refine AF rfl (by assumption) ?_); exact Z3)) <;> (refine D_seql rfl rfl rfl rfl (fun hc => ?_) (fun hc => ?_)) <;> (apply D_R rfl rfl; (intro W hW; subst hW; (refine AL rfl ?_; refine AB rfl ?_); exact Z3)) <;> refine Ay ?_)
    ·exact absurd (by assumption) he
    ·repeat first | refine nx rfl ?_ | refine nf rfl ?_
     (refine AA (AH rfl (BU rfl rfl (by first | exact Ao (by omega) (by omega) | exact Au (by omega) (by omega) | exact An (by omega) (by omega)) ?_)) <;> refine AC (AH rfl ?_))
     repeat refine nx rfl ?_
     refine ⟨k + 1, ⟨rfl, ⟨rfl, rfl, ?_, trivial⟩, ⟨by omega, k2.trans kd, hf⟩⟩, by omega⟩
     show Value.int .i64 ((k : Int) + 1) = _
     rw [Int.natCast_add]; rfl
  ·have hp : Bt u y = false := by simp [Bt, hl]
   rw [hp, if_neg (by simp)] at hf
   ((apply D_R rfl rfl; (intro W hW; subst hW; refine AU rfl ?_; exact Z3)) <;> (apply D_R rfl rfl; (intro W hW; subst hW; refine Aw rfl ?_; exact Z3)) <;> (apply D_R rfl rfl; (intro W hW; subst hW; refine Aa rfl ?_; exact Z3)) <;> (apply D_R rfl rfl; (intro W hW; subst hW; refine AH rfl ?_; exact Z3)) <;> (apply D_R rfl rfl; (intro W hW; subst hW; refine W_idx1 rfl rfl rfl (by omega) ?_; exact Z3)) <;> (apply D_R rfl rfl; (intro W hW; subst hW; refine AF rfl (by assumption) ?_; exact Z3)) <;> (apply D_R rfl rfl; (intro W hW; subst hW; refine Aw rfl ?_; exact Z3)) <;> refine D_geqF rfl rfl rfl rfl (by omega) ?_ <;> (apply D_R rfl rfl; (intro W hW; subst hW; refine AB rfl ?_; exact Z3)) <;> refine Ag rfl rfl rfl rfl (Ag rfl rfl rfl rfl (Ag rfl rfl rfl rfl (Ag rfl rfl rfl rfl (Ag rfl rfl rfl rfl (Ag rfl rfl rfl rfl (Ag rfl rfl rfl rfl (Ag rfl rfl rfl rfl (Ag rfl rfl rfl rfl (Ag rfl rfl rfl rfl (Ag rfl rfl rfl rfl (Ag rfl rfl rfl rfl ?_))))))))))) <;> (apply D_R rfl rfl; (intro W hW; subst hW; (refine AN rfl ?_; refine AB rfl ?_); exact Z3)) <;> refine Ay ?_)
   repeat first | refine nx rfl ?_ | refine nf rfl ?_
   (refine AA (AH rfl (BU rfl rfl (by first | exact Ao (by omega) (by omega) | exact Au (by omega) (by omega) | exact An (by omega) (by omega)) ?_)) <;> refine AC (AH rfl ?_))
   repeat refine nx rfl ?_
   refine ⟨k + 1, ⟨rfl, ⟨rfl, rfl, ?_, trivial⟩, ⟨by omega, k2.trans kd, hf⟩⟩, by omega⟩
   show Value.int .i64 ((k : Int) + 1) = _
   rw [Int.natCast_add]; rfl
 ·refine AA (AH rfl (Aa rfl (Ap rfl (BH rfl rfl (by omega) ?_))))
  repeat first | refine nx rfl ?_ | refine nf rfl ?_
  refine AA (AC (AU rfl ?_))
  repeat refine nx rfl ?_
  have hd : symsL.drop k = [] := List.drop_eq_nil_of_le (by show 15 ≤ k; omega)
  rw [hd] at hf
  exact AP rfl ⟨by unfold symW; rw [hf]; rfl, k1.trans k2⟩
def Ca (u : List UInt8) : Int × Nat × Bool :=
 if CJ (u.getD 0 0) = true then (1, Ak BF u 1, decide (Ak BF u 1 ≤ 20))
 else if Aq (u.getD 0 0) = true then (2, Ak Aq u 0, !BM u 0)
 else (3, (symW u).length, !decide (symW u = []))
end Go.Proofs.YtfcgdbmoncnibaaGreatDoor
namespace Go.Proofs.YtfcgdbmoncnibaaGreatDoor
open Go.RowKit
set_option linter.unusedVariables false
variable {mk : Prop} [MK mk]
theorem rnext_ok (u : List UInt8) (w : World) (h1 : 1 ≤ u.length) (h6 : u.length ≤ 1000000) : Fn Tryz.prog 100 [AK u] w fun v w' => Ext w w' ∧ v = .tuple #[.agg #[.int .i64 (Ca u).1, AK (u.take (Ca u).2.1), .int .i64 0], .bool (Ca u).2.2] := by
 have hc0 : u[0]? = some u[0] := List.getElem?_eq_getElem (by omega)
 generalize u[0] = c at hc0
 have hgd : u.getD 0 0 = c := by simp [List.getD_eq_getElem?_getD, hc0]
 have cb := c.toNat_lt
 refine Ae Tryz.func100 rfl Tryz.ntmps100 (Nat.le_of_ble_eq_true rfl) (by kernel_rfl) ?_
 repeat refine nx rfl ?_
 refine AA ?_
 refine Av (fun w1 n1 => ?_)
 have b1 : Blk w1 w.heap.size 158 [.int .i64 0, AK [], .int .i64 0] := n1.blk
 refine AC (AB rfl ?_)
 repeat refine nx rfl ?_
 refine AA (AC (AH rfl ?_))
 repeat refine nx rfl ?_
 refine CE (α := Unit) (fun _ => [(0, AK u), (2, pt w.heap.size), (3, .bool false), (4, .int .i64 0), (19, .bool (CJ c))]) (fun _ W => W = w1) ?_ ?_
 ·by_cases hs : 97 ≤ c.toNat ∧ c.toNat ≤ 122
  ·have hsm : A9 c = true := by simp [A9, hs.1, hs.2]
   (refine AA (AU rfl (BE rfl rfl (by assumption) ?_)) <;> refine W_geqT rfl rfl (by omega) (AB rfl (AE rfl (AU rfl (AE rfl (BE rfl rfl (by assumption) ?_))))) <;> refine AE rfl (DD rfl rfl (by omega) (AL rfl (AB rfl (AB rfl (AI rfl (AI rfl ?_)))))))
   refine AI rfl (AL rfl (AB rfl (AJ ?_)))
   exact Am () ⟨rfl, rfl, rfl, rfl, by simp [upd, Nat.beq, CJ, hsm], trivial⟩ rfl
  ·have hsm : A9 c = false := by simp [A9]; omega
   (refine AA (AU rfl (BE rfl rfl (by assumption) ?_)) <;> (refine W_geq rfl rfl (fun hc => ?_) (fun hc => ?_) <;> try omega) <;> refine AB rfl ?_ <;> (first | refine AI rfl ?_ | (refine AE rfl ?_; refine AU rfl ?_)) <;> (first | refine AI rfl ?_ | (refine AE rfl ?_; refine BE rfl rfl (by assumption) ?_)) <;> (first | refine AI rfl ?_ | (refine AE rfl ?_; refine Db rfl rfl (by omega) ?_)) <;> ((first | refine AL rfl ?_ | refine AN rfl ?_); refine AB rfl ?_) <;> refine AB rfl (AE rfl (AU rfl (AE rfl (BE rfl rfl (by assumption) ?_)))))
   all_goals
    refine AE rfl (AS (rbig_ok c _) rfl ?_)
    rintro v w' ⟨rfl, rfl⟩
    refine AN rfl (AB rfl (AJ ?_))
    exact Am () ⟨rfl, rfl, rfl, rfl, by simp [upd, Nat.beq, CJ, hsm], trivial⟩ rfl
 rintro _ w2 f2 rfl
 repeat refine nx rfl ?_
 cases hl : CJ c with
 | true =>
  repeat refine nx rfl ?_
  refine AA (AC (AH rfl ?_))
  repeat refine nx rfl ?_
  refine BN (α := Nat) (fun n => [(0, AK u), (2, pt w.heap.size), (3, .bool false), (4, .int .i64 (n : Int))]) (fun n W => n ≤ u.length ∧ 1 ≤ n ∧ Ak BF u n = Ak BF u 1 ∧ W = w2) (fun n => u.length - n) 1 ⟨rfl, rfl, rfl, rfl, trivial⟩ ⟨by omega, Nat.le_refl _, rfl, rfl⟩ ?_
  rintro n w3 f3 ⟨hn, hn0, hw, rfl⟩
  repeat refine nx rfl ?_
  by_cases hlt : n < u.length
  ·have hcn : u[n]? = some u[n] := List.getElem?_eq_getElem hlt
   generalize u[n] = d at hcn
   refine AA (AH rfl (AU rfl (Aw rfl (BG rfl rfl (by omega) (AB rfl (AE rfl (AU rfl (AE rfl (AH rfl (AE rfl (BE rfl rfl (by assumption) ?_)))))))))))
   refine AE rfl (AS (rpart_ok d _) rfl ?_)
   rintro v w' ⟨rfl, rfl⟩
   refine AL rfl (AB rfl (AJ ?_))
   cases hp : BF d with
   | true =>
    repeat refine nx rfl ?_
    (refine AA (AH rfl (BU rfl rfl (by first | exact Ao (by omega) (by omega) | exact Au (by omega) (by omega) | exact An (by omega) (by omega)) ?_)) <;> refine AC (AH rfl ?_))
    repeat refine nx rfl ?_
    refine ⟨n + 1, ⟨rfl, ⟨rfl, rfl, rfl, ?_, trivial⟩, ⟨by omega, by omega, (Bg hcn hp).symm.trans hw, rfl⟩⟩, by omega⟩
    show Value.int .i64 ((n : Int) + 1) = _
    rw [Int.natCast_add]; rfl
   | false =>
    have hwn := whileB_stop hcn hp
    repeat first | refine nx rfl ?_ | refine nf rfl ?_
    have hend : n = Ak BF u 1 := by omega
    have hwl := Bp (p := BF) (t := u) (a := 1) (by omega)
    rw [hend]
    by_cases h20 : Ak BF u 1 ≤ 20
    ·(refine AA (AU rfl (AH rfl (Co rfl rfl (by omega) (Af (by rfl) (by rfl) ?_)))) <;> refine AH rfl (DD rfl rfl (by omega) ?_))
     refine AZ (cs := [.int .i64 1, AK (u.take (Ak BF u 1)), .int .i64 0]) rfl rfl rfl (A5 rfl) b1 (by simp) (fun w4 p4 => ?_)
     have b4 : Blk w4 w.heap.size 158 [.int .i64 1, AK (u.take (Ak BF u 1)), .int .i64 0] := p4.blk
     refine AC (AB rfl ?_)
     repeat refine nx rfl ?_
     refine CK rfl rfl rfl b4.cells ⟨n1.keep.keep p4.keep (by simp), ?_⟩
     unfold Ca
     rw [hgd, if_pos hl, decide_eq_true h20]; rfl
    ·(refine AA (AU rfl (AH rfl (Co rfl rfl (by omega) (Af (by rfl) (by rfl) ?_)))) <;> refine AH rfl (Db rfl rfl (by omega) ?_))
     refine AZ (cs := [.int .i64 1, AK (u.take (Ak BF u 1)), .int .i64 0]) rfl rfl rfl (A5 rfl) b1 (by simp) (fun w4 p4 => ?_)
     have b4 : Blk w4 w.heap.size 158 [.int .i64 1, AK (u.take (Ak BF u 1)), .int .i64 0] := p4.blk
     refine AC (AB rfl ?_)
     repeat refine nx rfl ?_
     refine CK rfl rfl rfl b4.cells ⟨n1.keep.keep p4.keep (by simp), ?_⟩
     unfold Ca
     rw [hgd, if_pos hl, decide_eq_false h20]; rfl
  ·obtain rfl : n = u.length := by omega
   have hwn := whileB_end (p := BF) (t := u) (a := u.length) (by omega)
   have hend : u.length = Ak BF u 1 := by omega
   refine AA (AH rfl (AU rfl (Aw rfl (BH rfl rfl (by omega) (AB rfl (AI rfl (AI rfl (AI rfl ?_))))))))
   refine AI rfl (AN rfl (AB rfl ?_))
   repeat first | refine nx rfl ?_ | refine nf rfl ?_
   have hwl := Bp (p := BF) (t := u) (a := 1) (by omega)
   rw [hend]
   by_cases h20 : Ak BF u 1 ≤ 20
   ·(refine AA (AU rfl (AH rfl (Co rfl rfl (by omega) (Af (by rfl) (by rfl) ?_)))) <;> refine AH rfl (DD rfl rfl (by omega) ?_))
    refine AZ (cs := [.int .i64 1, AK (u.take (Ak BF u 1)), .int .i64 0]) rfl rfl rfl (A5 rfl) b1 (by simp) (fun w4 p4 => ?_)
    have b4 : Blk w4 w.heap.size 158 [.int .i64 1, AK (u.take (Ak BF u 1)), .int .i64 0] := p4.blk
    refine AC (AB rfl ?_)
    repeat refine nx rfl ?_
    refine CK rfl rfl rfl b4.cells ⟨n1.keep.keep p4.keep (by simp), ?_⟩
    unfold Ca
    rw [hgd, if_pos hl, decide_eq_true h20]; rfl
   ·(refine AA (AU rfl (AH rfl (Co rfl rfl (by omega) (Af (by rfl) (by rfl) ?_)))) <;> refine AH rfl (Db rfl rfl (by omega) ?_))
    refine AZ (cs := [.int .i64 1, AK (u.take (Ak BF u 1)), .int .i64 0]) rfl rfl rfl (A5 rfl) b1 (by simp) (fun w4 p4 => ?_)
    have b4 : Blk w4 w.heap.size 158 [.int .i64 1, AK (u.take (Ak BF u 1)), .int .i64 0] := p4.blk
    refine AC (AB rfl ?_)
    repeat refine nx rfl ?_
    refine CK rfl rfl rfl b4.cells ⟨n1.keep.keep p4.keep (by simp), ?_⟩
    unfold Ca
    rw [hgd, if_pos hl, decide_eq_false h20]; rfl
 | false =>
  repeat first | refine nx rfl ?_ | refine nf rfl ?_
  refine AA (AU rfl (BE rfl rfl (by assumption) ?_))
  refine AS (rdig_ok c _) rfl ?_
  rintro v w' ⟨rfl, rfl⟩
  refine AJ ?_
  cases hd : Aq c with
  | true =>
   repeat refine nx rfl ?_
   refine BN (α := Nat) (fun n => [(0, AK u), (2, pt w.heap.size), (3, .bool false), (4, .int .i64 (n : Int))]) (fun n W => n ≤ u.length ∧ 0 ≤ n ∧ Ak Aq u n = Ak Aq u 0 ∧ W = w') (fun n => u.length - n) 0 ⟨rfl, rfl, rfl, rfl, trivial⟩ ⟨by omega, Nat.le_refl _, rfl, rfl⟩ ?_
   rintro n w3 f3 ⟨hn, hn0, hw, rfl⟩
   repeat refine nx rfl ?_
   by_cases hlt : n < u.length
   ·have hcn : u[n]? = some u[n] := List.getElem?_eq_getElem hlt
    generalize u[n] = d at hcn
    refine AA (AH rfl (AU rfl (Aw rfl (BG rfl rfl (by omega) (AB rfl (AE rfl (AU rfl (AE rfl (AH rfl (AE rfl (BE rfl rfl (by assumption) ?_)))))))))))
    refine AE rfl (AS (rdig_ok d _) rfl ?_)
    rintro v w' ⟨rfl, rfl⟩
    refine AL rfl (AB rfl (AJ ?_))
    cases hp : Aq d with
    | true =>
     repeat refine nx rfl ?_
     (refine AA (AH rfl (BU rfl rfl (by first | exact Ao (by omega) (by omega) | exact Au (by omega) (by omega) | exact An (by omega) (by omega)) ?_)) <;> refine AC (AH rfl ?_))
     repeat refine nx rfl ?_
     refine ⟨n + 1, ⟨rfl, ⟨rfl, rfl, rfl, ?_, trivial⟩, ⟨by omega, by omega, (Bg hcn hp).symm.trans hw, rfl⟩⟩, by omega⟩
     show Value.int .i64 ((n : Int) + 1) = _
     rw [Int.natCast_add]; rfl
    | false =>
     have hwn := whileB_stop hcn hp
     repeat first | refine nx rfl ?_ | refine nf rfl ?_
     have hend : n = Ak Aq u 0 := by omega
     have hwl := Bp (p := Aq) (t := u) (a := 0) (by omega)
     have hge1 : 1 ≤ Ak Aq u 0 := by
      have h1 := Bg (p := Aq) hc0 hd
      have h2 := By Aq u (0 + 1)
      omega
     have hnx : Ca u = (2, Ak Aq u 0, !BM u 0) := by
      unfold Ca
      rw [hgd, hl, hd]; rfl
     rw [hend]
     clear hend hwn hw
     generalize hN : Ak Aq u 0 = N at hwl hge1 hnx
     have hnb : BM u 0 = (decide (4 < N) || (decide (1 < N) && decide (c.toNat = 48)) || (decide (N < u.length) && (CJ (u.getD N 0) || decide ((u.getD N 0).toNat = 95)))) := by
      unfold BM
      rw [hN, hgd, Nat.sub_zero]
     refine CE (α := Unit) (fun _ => [(0, AK u), (2, pt w.heap.size), (3, .bool false), (4, .int .i64 (N : Int)), (5, .bool (decide (N < u.length) && (CJ (u.getD N 0) || decide ((u.getD N 0).toNat = 95))))]) (fun _ W => Ext w W ∧ Blk W w.heap.size 158 [.int .i64 0, AK [], .int .i64 0]) ?_ ?_
     ·by_cases hlt : N < u.length
      ·have hcn : u[N]? = some u[N] := List.getElem?_eq_getElem hlt
       generalize u[N] = d at hcn
       have hgn : u.getD N 0 = d := by simp [List.getD_eq_getElem?_getD, hcn]
       rw [hgn, decide_eq_true hlt, Bool.true_and]
       refine AA (AH rfl (AU rfl (Aw rfl (BG rfl rfl (by omega) (AB rfl (AE rfl (AU rfl (AE rfl (AH rfl (AE rfl (BE rfl rfl (by assumption) ?_)))))))))))
       refine AE rfl (AS (rlow_ok d _) rfl ?_)
       rintro v w' ⟨rfl, rfl⟩
       cases hsd : A9 d with
       | true =>
        refine AE rfl (AB rfl (AI rfl (AI rfl (AI rfl (AI rfl (AE rfl (AL rfl (AB rfl (AE rfl (AB rfl (AI rfl (AI rfl (AI rfl (AI rfl (AE rfl (AL rfl (AB rfl (AL rfl (AB rfl (AC (AB rfl (AJ ?_))))))))))))))))))))))
        exact Am () ⟨rfl, rfl, rfl, rfl, by simp [upd, Nat.beq, CJ, hsd], trivial⟩ ⟨n1.keep, b1⟩
       | false =>
        refine AE rfl (AB rfl (AE rfl (AU rfl (AE rfl (AH rfl (AE rfl (BE rfl rfl (by assumption) ?_)))))))
        refine AE rfl (AS (rbig_ok d _) rfl ?_)
        rintro v w' ⟨rfl, rfl⟩
        cases hud : isUp d with
        | true =>
         refine AE rfl (AN rfl (AB rfl (AE rfl (AB rfl (AI rfl (AI rfl (AI rfl (AI rfl (AE rfl (AL rfl (AB rfl (AL rfl (AB rfl (AC (AB rfl (AJ ?_))))))))))))))))
         exact Am () ⟨rfl, rfl, rfl, rfl, by simp [upd, Nat.beq, CJ, hsd, hud], trivial⟩ ⟨n1.keep, b1⟩
        | false =>
         (refine AE rfl (AN rfl (AB rfl (AE rfl (AB rfl (AE rfl (AU rfl (AE rfl (AH rfl (AE rfl (BE rfl rfl (by assumption) ?_)))))))))) <;> (refine AE rfl ?_; (refine Bq rfl rfl (fun hc => ?_) (fun hc => ?_) <;> try omega)) <;> refine AE rfl (AN rfl (AB rfl (AL rfl (AB rfl (AC (AB rfl (AJ ?_))))))))
         all_goals exact Am () ⟨rfl, rfl, rfl, rfl, by simp [upd, Nat.beq, CJ, hsd, hud]; omega, trivial⟩ ⟨n1.keep, b1⟩
      ·rw [decide_eq_false hlt, Bool.false_and]
       refine AA (AH rfl (AU rfl (Aw rfl (BH rfl rfl (by omega) (AB rfl (AI rfl (AI rfl (AI rfl ?_))))))))
       refine AI rfl (AI rfl (AI rfl (AI rfl (AI rfl (AI rfl (AI rfl (AI rfl (AI rfl (AI rfl (AI rfl (AI rfl (AI rfl (AN rfl (AB rfl (AC (AB rfl (AJ ?_)))))))))))))))))
       exact Am () ⟨rfl, rfl, rfl, rfl, by simp [upd, Nat.beq], trivial⟩ ⟨n1.keep, b1⟩
     rintro _ w4 f4 ⟨k4, b4⟩
     repeat refine nx rfl ?_
     generalize (decide (N < u.length) && (CJ (u.getD N 0) || decide ((u.getD N 0).toNat = 95))) = glued at hnb
     refine A3 (.read 0 (.read 1 (.read 2 (.read 3 (.read 4 (.read 5 (.read 6 (.read 7 (.read 8 (.read 9 (.read 10 (.read 11 (.read 12 (.read 13 (.read 14 (.read 15 (.read 16 (.read 17 (.read 18 (.alt 19 (.read 20 .done) .stop)))))))))))))))))))) BA (by kernel_rfl) (fun wd kd ed => ⟨Keep [w.heap.size] w4, ?_, ?_⟩)
     ·exact kd.any
     have b5 := b4.keep kd (by simp)
     have hfin : ∀ r : Bool, r = !BM u 0 → ∀ (f : Fr) (w6 : World), Put wd w6 w.heap.size 158 [.int .i64 2, AK (u.take N), .int .i64 0] → f 2 = pt w.heap.size → f 3 = .bool r →
       C2 Tryz.prog Tryz.f100 (fun v w' => Ext w w' ∧ v = .tuple #[.agg #[.int .i64 (Ca u).1, AK (u.take (Ca u).2.1), .int .i64 0], .bool (Ca u).2.2]) (fun _ _ => False) .ret f [] w6 := by
      rintro r rfl f w6 p6 e2 e3
      refine CK rfl e2 rfl p6.blk.cells ⟨(k4.trans kd).keep p6.keep (by simp), ?_⟩
      rw [hnx, e3]
     cases glued <;> by_cases h4 : N ≤ 4 <;> by_cases hN1 : N = 1 <;> by_cases h48 : c.toNat = 48
     all_goals try (exfalso; omega)
     all_goals
      (refine D_R rfl rfl (fun W hW => AU rfl Z3) (D_R rfl rfl (fun W hW => AH rfl Z3) (D_R rfl rfl (fun W hW => Co rfl rfl (by omega) Z3) ?_)) <;> (apply D_R rfl rfl; (intro W hW; refine Af (by rfl) (by rfl) ?_; exact Z3)) <;> refine D_R rfl rfl (fun W hW => AH rfl Z3) ?_ <;> (refine D_leq rfl rfl rfl rfl (fun hc => ?_) (fun hc => ?_) <;> try omega) <;> refine D_R rfl rfl (fun W hW => AB rfl Z3) ?_ <;> (first | refine Ag rfl rfl rfl rfl ?_ | (apply D_R rfl rfl; (intro W hW; (refine AE rfl ?_; refine AB rfl ?_); exact AJ ⟨rfl, rfl, rfl⟩))) <;> (first | refine Ag rfl rfl rfl rfl ?_ | (apply D_R rfl rfl; (intro W hW; (refine AE rfl ?_; refine BB rfl ?_); exact AJ ⟨rfl, rfl, rfl⟩))) <;> (apply D_R rfl rfl; (intro W hW; ((first | refine AL rfl ?_ | refine AN rfl ?_); refine AB rfl ?_); exact Z3)) <;> refine D_R rfl rfl (fun W hW => AB rfl Z3) ?_ <;> (first | refine Ag rfl rfl rfl rfl ?_ | (apply D_R rfl rfl; (intro W hW; (refine AE rfl ?_; refine AH rfl ?_); exact AJ ⟨rfl, rfl, rfl⟩))) <;> (first | refine Ag rfl rfl rfl rfl ?_ | (refine D_eql rfl rfl rfl rfl (fun hc => ?_) (fun hc => ?_) <;> try omega)) <;> (first | refine Ag rfl rfl rfl rfl ?_ | (apply D_R rfl rfl; (intro W hW; (refine AE rfl ?_; refine AB rfl ?_); exact AJ ⟨rfl, rfl, rfl⟩))) <;> (first | refine Ag rfl rfl rfl rfl ?_ | (apply D_R rfl rfl; (intro W hW; refine AI rfl ?_; exact AJ ⟨rfl, rfl, rfl⟩)) | (apply D_R rfl rfl; (intro W hW; (refine AE rfl ?_; refine AU rfl ?_); exact AJ ⟨rfl, rfl, rfl⟩))) <;> (first | refine Ag rfl rfl rfl rfl ?_ | (apply D_R rfl rfl; (intro W hW; refine AI rfl ?_; exact AJ ⟨rfl, rfl, rfl⟩)) | (apply D_R rfl rfl; (intro W hW; (refine AE rfl ?_; refine BE rfl rfl (by assumption) ?_); exact AJ ⟨rfl, rfl, rfl⟩))) <;> (first | refine Ag rfl rfl rfl rfl ?_ | (apply D_R rfl rfl; (intro W hW; refine AI rfl ?_; exact AJ ⟨rfl, rfl, rfl⟩)) | (refine D_neq rfl rfl rfl rfl (fun hc => ?_) (fun hc => ?_) <;> try omega)) <;> (first | refine Ag rfl rfl rfl rfl ?_ | (apply D_R rfl rfl; (intro W hW; (refine AE rfl ?_; ((first | refine AL rfl ?_ | refine AN rfl ?_); refine AB rfl ?_)); exact AJ ⟨rfl, rfl, rfl⟩))) <;> (apply D_R rfl rfl; (intro W hW; ((first | refine AL rfl ?_ | refine AN rfl ?_); refine AB rfl ?_); exact Z3)))
      refine D_E rfl ?_
      refine AZ (cs := [.int .i64 2, AK (u.take N), .int .i64 0]) rfl rfl rfl (A5 rfl) b5 (by simp) (fun w6 p6 => ?_)
      refine AJ ⟨fun W => W = w6, fun W hW => hW ▸ (kd.any.trans p6.keep (by simp)), rfl, ?_⟩
      ((apply D_R rfl rfl; (intro W hW; subst hW; (refine AC ?_; refine AB rfl ?_); exact Z3)) <;> refine Ay ?_)
      repeat refine nx rfl ?_
      refine hfin _ ?_ _ w6 p6 rfl rfl
      rw [hnb]
      simp [upd, Nat.beq, h4, hN1, h48] <;> omega
   ·obtain rfl : n = u.length := by omega
    have hwn := whileB_end (p := Aq) (t := u) (a := u.length) (by omega)
    have hend : u.length = Ak Aq u 0 := by omega
    refine AA (AH rfl (AU rfl (Aw rfl (BH rfl rfl (by omega) (AB rfl (AI rfl (AI rfl (AI rfl ?_))))))))
    refine AI rfl (AN rfl (AB rfl ?_))
    repeat first | refine nx rfl ?_ | refine nf rfl ?_
    have hwl := Bp (p := Aq) (t := u) (a := 0) (by omega)
    have hge1 : 1 ≤ Ak Aq u 0 := by
     have h1 := Bg (p := Aq) hc0 hd
     have h2 := By Aq u (0 + 1)
     omega
    have hnx : Ca u = (2, Ak Aq u 0, !BM u 0) := by
     unfold Ca
     rw [hgd, hl, hd]; rfl
    rw [hend]
    clear hend hwn hw
    generalize hN : Ak Aq u 0 = N at hwl hge1 hnx
    have hnb : BM u 0 = (decide (4 < N) || (decide (1 < N) && decide (c.toNat = 48)) || (decide (N < u.length) && (CJ (u.getD N 0) || decide ((u.getD N 0).toNat = 95)))) := by
     unfold BM
     rw [hN, hgd, Nat.sub_zero]
    refine CE (α := Unit) (fun _ => [(0, AK u), (2, pt w.heap.size), (3, .bool false), (4, .int .i64 (N : Int)), (5, .bool (decide (N < u.length) && (CJ (u.getD N 0) || decide ((u.getD N 0).toNat = 95))))]) (fun _ W => Ext w W ∧ Blk W w.heap.size 158 [.int .i64 0, AK [], .int .i64 0]) ?_ ?_
    ·by_cases hlt : N < u.length
     ·have hcn : u[N]? = some u[N] := List.getElem?_eq_getElem hlt
      generalize u[N] = d at hcn
      have hgn : u.getD N 0 = d := by simp [List.getD_eq_getElem?_getD, hcn]
      rw [hgn, decide_eq_true hlt, Bool.true_and]
      refine AA (AH rfl (AU rfl (Aw rfl (BG rfl rfl (by omega) (AB rfl (AE rfl (AU rfl (AE rfl (AH rfl (AE rfl (BE rfl rfl (by assumption) ?_)))))))))))
      refine AE rfl (AS (rlow_ok d _) rfl ?_)
      rintro v w' ⟨rfl, rfl⟩
      cases hsd : A9 d with
      | true =>
       refine AE rfl (AB rfl (AI rfl (AI rfl (AI rfl (AI rfl (AE rfl (AL rfl (AB rfl (AE rfl (AB rfl (AI rfl (AI rfl (AI rfl (AI rfl (AE rfl (AL rfl (AB rfl (AL rfl (AB rfl (AC (AB rfl (AJ ?_))))))))))))))))))))))
       exact Am () ⟨rfl, rfl, rfl, rfl, by simp [upd, Nat.beq, CJ, hsd], trivial⟩ ⟨n1.keep, b1⟩
      | false =>
       refine AE rfl (AB rfl (AE rfl (AU rfl (AE rfl (AH rfl (AE rfl (BE rfl rfl (by assumption) ?_)))))))
       refine AE rfl (AS (rbig_ok d _) rfl ?_)
       rintro v w' ⟨rfl, rfl⟩
       cases hud : isUp d with
       | true =>
        refine AE rfl (AN rfl (AB rfl (AE rfl (AB rfl (AI rfl (AI rfl (AI rfl (AI rfl (AE rfl (AL rfl (AB rfl (AL rfl (AB rfl (AC (AB rfl (AJ ?_))))))))))))))))
        exact Am () ⟨rfl, rfl, rfl, rfl, by simp [upd, Nat.beq, CJ, hsd, hud], trivial⟩ ⟨n1.keep, b1⟩
       | false =>
        (refine AE rfl (AN rfl (AB rfl (AE rfl (AB rfl (AE rfl (AU rfl (AE rfl (AH rfl (AE rfl (BE rfl rfl (by assumption) ?_)))))))))) <;> (refine AE rfl ?_; (refine Bq rfl rfl (fun hc => ?_) (fun hc => ?_) <;> try omega)) <;> refine AE rfl (AN rfl (AB rfl (AL rfl (AB rfl (AC (AB rfl (AJ ?_))))))))
        all_goals exact Am () ⟨rfl, rfl, rfl, rfl, by simp [upd, Nat.beq, CJ, hsd, hud]; omega, trivial⟩ ⟨n1.keep, b1⟩
     ·rw [decide_eq_false hlt, Bool.false_and]
      refine AA (AH rfl (AU rfl (Aw rfl (BH rfl rfl (by omega) (AB rfl (AI rfl (AI rfl (AI rfl ?_))))))))
      refine AI rfl (AI rfl (AI rfl (AI rfl (AI rfl (AI rfl (AI rfl (AI rfl (AI rfl (AI rfl (AI rfl (AI rfl (AI rfl (AN rfl (AB rfl (AC (AB rfl (AJ ?_)))))))))))))))))
      exact Am () ⟨rfl, rfl, rfl, rfl, by simp [upd, Nat.beq], trivial⟩ ⟨n1.keep, b1⟩
    rintro _ w4 f4 ⟨k4, b4⟩
    repeat refine nx rfl ?_
    generalize (decide (N < u.length) && (CJ (u.getD N 0) || decide ((u.getD N 0).toNat = 95))) = glued at hnb
    refine A3 (.read 0 (.read 1 (.read 2 (.read 3 (.read 4 (.read 5 (.read 6 (.read 7 (.read 8 (.read 9 (.read 10 (.read 11 (.read 12 (.read 13 (.read 14 (.read 15 (.read 16 (.read 17 (.read 18 (.alt 19 (.read 20 .done) .stop)))))))))))))))))))) BA (by kernel_rfl) (fun wd kd ed => ⟨Keep [w.heap.size] w4, ?_, ?_⟩)
    ·exact kd.any
    have b5 := b4.keep kd (by simp)
    have hfin : ∀ r : Bool, r = !BM u 0 → ∀ (f : Fr) (w6 : World), Put wd w6 w.heap.size 158 [.int .i64 2, AK (u.take N), .int .i64 0] → f 2 = pt w.heap.size → f 3 = .bool r →
      C2 Tryz.prog Tryz.f100 (fun v w' => Ext w w' ∧ v = .tuple #[.agg #[.int .i64 (Ca u).1, AK (u.take (Ca u).2.1), .int .i64 0], .bool (Ca u).2.2]) (fun _ _ => False) .ret f [] w6 := by
     rintro r rfl f w6 p6 e2 e3
     refine CK rfl e2 rfl p6.blk.cells ⟨(k4.trans kd).keep p6.keep (by simp), ?_⟩
     rw [hnx, e3]
    cases glued <;> by_cases h4 : N ≤ 4 <;> by_cases hN1 : N = 1 <;> by_cases h48 : c.toNat = 48
    all_goals try (exfalso; omega)
    all_goals
     (refine D_R rfl rfl (fun W hW => AU rfl Z3) (D_R rfl rfl (fun W hW => AH rfl Z3) (D_R rfl rfl (fun W hW => Co rfl rfl (by omega) Z3) ?_)) <;> (apply D_R rfl rfl; (intro W hW; refine Af (by rfl) (by rfl) ?_; exact Z3)) <;> refine D_R rfl rfl (fun W hW => AH rfl Z3) ?_ <;> (refine D_leq rfl rfl rfl rfl (fun hc => ?_) (fun hc => ?_) <;> try omega) <;> refine D_R rfl rfl (fun W hW => AB rfl Z3) ?_ <;> (first | refine Ag rfl rfl rfl rfl ?_ | (apply D_R rfl rfl; (intro W hW; (refine AE rfl ?_; refine AB rfl ?_); exact AJ ⟨rfl, rfl, rfl⟩))) <;> (first | refine Ag rfl rfl rfl rfl ?_ | (apply D_R rfl rfl; (intro W hW; (refine AE rfl ?_; refine BB rfl ?_); exact AJ ⟨rfl, rfl, rfl⟩))) <;> (apply D_R rfl rfl; (intro W hW; ((first | refine AL rfl ?_ | refine AN rfl ?_); refine AB rfl ?_); exact Z3)) <;> refine D_R rfl rfl (fun W hW => AB rfl Z3) ?_ <;> (first | refine Ag rfl rfl rfl rfl ?_ | (apply D_R rfl rfl; (intro W hW; (refine AE rfl ?_; refine AH rfl ?_); exact AJ ⟨rfl, rfl, rfl⟩))) <;> (first | refine Ag rfl rfl rfl rfl ?_ | (refine D_eql rfl rfl rfl rfl (fun hc => ?_) (fun hc => ?_) <;> try omega)) <;> (first | refine Ag rfl rfl rfl rfl ?_ | (apply D_R rfl rfl; (intro W hW; (refine AE rfl ?_; refine AB rfl ?_); exact AJ ⟨rfl, rfl, rfl⟩))) <;> (first | refine Ag rfl rfl rfl rfl ?_ | (apply D_R rfl rfl; (intro W hW; refine AI rfl ?_; exact AJ ⟨rfl, rfl, rfl⟩)) | (apply D_R rfl rfl; (intro W hW; (refine AE rfl ?_; refine AU rfl ?_); exact AJ ⟨rfl, rfl, rfl⟩))) <;> (first | refine Ag rfl rfl rfl rfl ?_ | (apply D_R rfl rfl; (intro W hW; refine AI rfl ?_; exact AJ ⟨rfl, rfl, rfl⟩)) | (apply D_R rfl rfl; (intro W hW; (refine AE rfl ?_; refine BE rfl rfl (by assumption) ?_); exact AJ ⟨rfl, rfl, rfl⟩))) <;> (first | refine Ag rfl rfl rfl rfl ?_ | (apply D_R rfl rfl; (intro W hW; refine AI rfl ?_; exact AJ ⟨rfl, rfl, rfl⟩)) | (refine D_neq rfl rfl rfl rfl (fun hc => ?_) (fun hc => ?_) <;> try omega)) <;> (first | refine Ag rfl rfl rfl rfl ?_ | (apply D_R rfl rfl; (intro W hW; (refine AE rfl ?_; ((first | refine AL rfl ?_ | refine AN rfl ?_); refine AB rfl ?_)); exact AJ ⟨rfl, rfl, rfl⟩))) <;> (apply D_R rfl rfl; (intro W hW; ((first | refine AL rfl ?_ | refine AN rfl ?_); refine AB rfl ?_); exact Z3)))
     refine D_E rfl ?_
     refine AZ (cs := [.int .i64 2, AK (u.take N), .int .i64 0]) rfl rfl rfl (A5 rfl) b5 (by simp) (fun w6 p6 => ?_)
     refine AJ ⟨fun W => W = w6, fun W hW => hW ▸ (kd.any.trans p6.keep (by simp)), rfl, ?_⟩
     ((apply D_R rfl rfl; (intro W hW; subst hW; (refine AC ?_; refine AB rfl ?_); exact Z3)) <;> refine Ay ?_)
     repeat refine nx rfl ?_
     refine hfin _ ?_ _ w6 p6 rfl rfl
     rw [hnb]
     simp [upd, Nat.beq, h4, hN1, h48] <;> omega
  | false =>
   repeat first | refine nx rfl ?_ | refine nf rfl ?_
   refine AA (AU rfl ?_)
   refine AS (rsymbol_ok u _) rfl ?_
   rintro v w3 ⟨rfl, k3⟩
   refine AC (AU rfl ?_)
   repeat refine nx rfl ?_
   have b3 := b1.keep k3 (by simp)
   have htk : symW u = u.take (symW u).length := by
    unfold symW
    cases hf : symsL.find? (Bt u) with
    | none => rfl
    | some y => exact (List.prefix_iff_eq_take.1 ((Cs _ _).1 (List.find?_some hf)))
   have hnx : Ca u = (3, (symW u).length, !decide (symW u = [])) := by
    unfold Ca
    rw [hgd, hl, hd]; rfl
   by_cases he : symW u = []
   ·(refine AA (AU rfl (Af (by rfl) (by rfl) ?_)) <;> refine AU rfl ?_ <;> refine W_sneq rfl rfl (fun hc => ?_) (fun hc => ?_))
    ·exact absurd he (by assumption)
    ·refine AZ (cs := [.int .i64 3, AK (symW u), .int .i64 0]) rfl rfl rfl (A5 rfl) b3 (by simp) (fun w4 p4 => ?_)
     have b4 : Blk w4 w.heap.size 158 [.int .i64 3, AK (symW u), .int .i64 0] := p4.blk
     refine AC (AB rfl ?_)
     repeat refine nx rfl ?_
     refine CK rfl rfl rfl b4.cells ⟨(n1.keep.trans k3).keep p4.keep (by simp), ?_⟩
     rw [hnx]
     simp only
     rw [← htk, decide_eq_true he]; rfl
   ·(refine AA (AU rfl (Af (by rfl) (by rfl) ?_)) <;> refine AU rfl ?_ <;> refine W_sneq rfl rfl (fun hc => ?_) (fun hc => ?_))
    ·refine AZ (cs := [.int .i64 3, AK (symW u), .int .i64 0]) rfl rfl rfl (A5 rfl) b3 (by simp) (fun w4 p4 => ?_)
     have b4 : Blk w4 w.heap.size 158 [.int .i64 3, AK (symW u), .int .i64 0] := p4.blk
     refine AC (AB rfl ?_)
     repeat refine nx rfl ?_
     refine CK rfl rfl rfl b4.cells ⟨(n1.keep.trans k3).keep p4.keep (by simp), ?_⟩
     rw [hnx]
     simp only
     rw [← htk, decide_eq_false he]; rfl
    ·exact absurd (by assumption) he
end Go.Proofs.YtfcgdbmoncnibaaGreatDoor
namespace Go.Proofs.YtfcgdbmoncnibaaGreatDoor
open Go.RowKit
set_option linter.unusedVariables false
variable {mk : Prop} [MK mk]
def kindOk (c : UInt8) : Bool := match DJ c with
 | some 0 => isBlank c
 | some 1 => decide (c.toNat = 37)
 | some 2 => CJ c
 | some 3 => !CJ c && Aq c
 | some _ => !CJ c && !Aq c
 | none => !CJ c && !Aq c && symsL.all (fun y => decide (y.head? ≠ some c))
def gapOk (c : UInt8) : Bool := (!isBlank c || decide (DJ c = some 0)) && (!decide (c.toNat = 37) || decide (DJ c = some 1))
theorem kinds_all : ∀ n : Fin 256, (kindOk (UInt8.ofNat n.val) && gapOk (UInt8.ofNat n.val)) = true := by decide +kernel
theorem kind_all (c : UInt8) : kindOk c = true ∧ gapOk c = true := by
 have h := kinds_all ⟨c.toNat, c.toNat_lt⟩
 rw [Bool.and_eq_true] at h
 have e : UInt8.ofNat c.toNat = c := by simp
 simp only [e] at h
 exact h
theorem kind_blank {c : UInt8} (h : isBlank c = true) : DJ c = some 0 := by
 have := (kind_all c).2
 simp only [gapOk, h, Bool.not_true, Bool.false_or, Bool.and_eq_true, decide_eq_true_eq] at this
 exact this.1
theorem kind_37 {c : UInt8} (h : c.toNat = 37) : DJ c = some 1 := by
 have := (kind_all c).2
 simp only [gapOk, h, decide_true, Bool.not_true, Bool.false_or, Bool.and_eq_true, decide_eq_true_eq] at this
 exact this.2
theorem drop_split (t : List UInt8) {a : Nat} (h : a ≤ t.length) : t = t.take a ++ t.drop a ∧ (t.take a).length = a := ⟨(List.take_append_drop a t).symm, by simp; omega⟩
theorem whileB_drop (q : UInt8 → Bool) (t : List UInt8) {a : Nat} (h : a ≤ t.length) (j : Nat) : Ak q t (a + j) = a + Ak q (t.drop a) j := by
 obtain ⟨h1, h2⟩ := drop_split t h
 have := DL (q := q) (t.take a) (t.drop a) j
 rw [← h1, h2] at this; exact this
theorem step_next (t : List UInt8) (a : Nat) (ts : List Tok) (ha : a < t.length) (h0 : DJ (t.getD a 0) ≠ some 0) (h1 : DJ (t.getD a 0) ≠ some 1) :
  BR t a ts = if (Ca (t.drop a)).2.2 = true then Ci t a ts (Ca (t.drop a)).1 (a + (Ca (t.drop a)).2.1) else .error (40, a) := by
 have hg : (t.drop a).getD 0 0 = t.getD a 0 := by simp [List.getD_eq_getElem?_getD]
 have hk := (kind_all (t.getD a 0)).1
 unfold kindOk at hk
 unfold BR Ca
 rw [hg]
 split at hk
 ·rename_i e; exact absurd e h0
 ·rename_i e; exact absurd e h1
 ·rename_i e
  rw [e, if_pos hk]
  simp only [Dn]
  rw [whileB_drop BF t (by omega) 1]
  by_cases h20 : Ak BF (t.drop a) 1 ≤ 20
  ·rw [if_neg (by omega), if_pos (by simpa using h20)]
  ·rw [if_pos (by omega), if_neg (by simpa using h20)]
 ·rename_i e
  rw [e]
  rw [Bool.and_eq_true, Bool.not_eq_true'] at hk
  rw [hk.1, hk.2]
  simp only [Bool.false_eq_true, if_false, if_true, Dg]
  obtain ⟨g1, g2⟩ := drop_split t (Nat.le_of_lt ha)
  have hnb : BM t a = BM (t.drop a) 0 := by
   have := numBad_sh (t.take a) (t.drop a) 0
   rw [← g1, g2] at this; exact this
  have hw := whileB_drop Aq t (Nat.le_of_lt ha) 0
  rw [Nat.add_zero] at hw
  rw [hnb, hw]
  cases BM (t.drop a) 0 <;> rfl
 ·rename_i k e0 e1 e2 e3 hkk
  simp only [Bool.and_eq_true, Bool.not_eq_true'] at hk
  rw [hk.1, hk.2]
  simp only [Bool.false_eq_true, if_false]
  have e0' : k ≠ 0 := e0
  have e1' : k ≠ 1 := e1
  have e2' : k ≠ 2 := e2
  have e3' : k ≠ 3 := e3
  obtain ⟨j, rfl⟩ : ∃ j, k = j + 4 := ⟨k - 4, by omega⟩
  rw [hkk]
  show symM t a ts = _
  unfold symM symW
  cases hf : symsL.find? (Bt (t.drop a)) with
  | none => rfl
  | some y =>
   have hne : ∀ y ∈ symsL, y ≠ [] := by decide
   have := hne y (List.mem_of_find?_eq_some hf)
   simp [this]
 ·rename_i e
  simp only [Bool.and_eq_true, Bool.not_eq_true'] at hk
  rw [e, hk.1.1, hk.1.2]
  simp only [Bool.false_eq_true, if_false]
  have hf : symsL.find? (Bt (t.drop a)) = none := by
   rw [List.find?_eq_none]
   intro y hy hp
   have h1 := (Cs _ _).1 hp
   have h2 := List.all_eq_true.1 hk.2 y hy
   have hne : ∀ y ∈ symsL, y ≠ [] := by decide
   match y, hne y hy, h1, h2 with
   | d :: y, _, h1, h2 =>
    obtain ⟨r, hr⟩ := h1
    have : (t.drop a).head? = some d := by rw [← hr]; rfl
    have hc : t[a]? = some t[a] := List.getElem?_eq_getElem ha
    rw [List.head?_drop, hc] at this
    rw [De hc] at h2
    simp at h2
    exact h2 (Option.some.inj this).symm
  unfold symW
  rw [hf]
  rfl
theorem gapW_ge (t : List UInt8) : ∀ (m a : Nat), t.length - a ≤ m → a ≤ t.length → a ≤ gapW t a ∧ gapW t a ≤ t.length ∧ gapW t (gapW t a) = gapW t a := by
 intro m
 induction m with
 | zero =>
  intro a hm ha
  obtain rfl : a = t.length := by omega
  rw [gapW_end]
  exact ⟨Nat.le_refl _, Nat.le_refl _, gapW_end⟩
 | succ m ih =>
  intro a hm ha
  by_cases h : a < t.length
  ·have hc : t[a]? = some t[a] := List.getElem?_eq_getElem h
   rw [gapW_step hc]
   split
   ·rename_i h37
    have h1 := Bp (p := BP) (t := t) (a := a) (by omega)
    have h2 := Bg (p := BP) hc (by simp [BP, h37])
    have h3 := By BP t (a + 1)
    have := ih (Ak BP t a) (by omega) h1
    exact ⟨by omega, this.2⟩
   ·split
    ·have := ih (a + 1) (by omega) (by omega)
     exact ⟨by omega, this.2⟩
    ·rename_i h1 h2
     refine ⟨Nat.le_refl _, by omega, ?_⟩
     rw [gapW_step hc, if_neg h1, if_neg h2]
  ·obtain rfl : a = t.length := by omega
   rw [gapW_end]
   exact ⟨Nat.le_refl _, Nat.le_refl _, gapW_end⟩
theorem scan_gap (t : List UInt8) (ts : List Tok) : ∀ (m a : Nat), t.length - a ≤ m → a ≤ t.length → scanW t a ts = scanW t (gapW t a) ts := by
 intro m
 induction m with
 | zero =>
  intro a hm ha
  obtain rfl : a = t.length := by omega
  rw [gapW_end]
 | succ m ih =>
  intro a hm ha
  by_cases h : a < t.length
  ·have hc : t[a]? = some t[a] := List.getElem?_eq_getElem h
   have hg : t.getD a 0 = t[a] := De hc
   rw [gapW_step hc]
   split
   ·rename_i h37
    have h1 := Bp (p := BP) (t := t) (a := a) (by omega)
    have h2 := Bg (p := BP) hc (by simp [BP, h37])
    have h3 := By BP t (a + 1)
    rw [DC h]
    have : BR t a ts = .ok (Ak BP t a, ts) := by unfold BR; rw [hg, kind_37 h37]; rfl
    rw [this]
    exact ih _ (by omega) h1
   ·split
    ·rename_i hb
     rw [DC h]
     have : BR t a ts = .ok (a + 1, ts) := by unfold BR; rw [hg, kind_blank hb]; rfl
     rw [this]
     exact ih _ (by omega) (by omega)
    ·rfl
  ·obtain rfl : a = t.length := by omega
   rw [gapW_end]
theorem gap_stop {t : List UInt8} {i : Nat} (hi : i < t.length) (h : gapW t i = i) : DJ (t.getD i 0) ≠ some 0 ∧ DJ (t.getD i 0) ≠ some 1 := by
 have hc : t[i]? = some t[i] := List.getElem?_eq_getElem hi
 have hg : t.getD i 0 = t[i] := De hc
 rw [gapW_step hc] at h
 rw [hg]
 refine ⟨fun e => ?_, fun e => ?_⟩
 ·obtain ⟨h1, h2⟩ := kindB_0 e
  rw [if_neg h1, if_pos h2] at h
  have := (gapW_ge t _ (i + 1) (Nat.le_refl _) (by omega)).1
  omega
 ·have h37 := kindB_1 e
  rw [if_pos h37] at h
  have h1 := Bp (p := BP) (t := t) (a := i) (by omega)
  have h2 := Bg (p := BP) hc (by simp [BP, h37])
  have h3 := By BP t (i + 1)
  have := (gapW_ge t _ (Ak BP t i) (Nat.le_refl _) h1).1
  omega
theorem gapW_drop (t : List UInt8) {a : Nat} (h : a ≤ t.length) : gapW t a = a + gapW (t.drop a) 0 := by
 obtain ⟨h1, h2⟩ := drop_split t h
 have := gapW_sh (t.take a) (t.drop a) 0 (by omega)
 rw [← h1, h2, Nat.add_zero] at this; exact this
theorem nextM_pos {u : List UInt8} (h : 1 ≤ u.length) (hr : (Ca u).2.2 = true) : 1 ≤ (Ca u).2.1 ∧ (Ca u).2.1 ≤ u.length := by
 unfold Ca at hr ⊢
 split
 ·have := By BF u 1
  have := Bp (p := BF) (t := u) (a := 1) h
  simp only; omega
 ·split
  ·rename_i hd
   have hc : u[0]? = some u[0] := List.getElem?_eq_getElem (by omega)
   rw [De hc] at hd
   have := Bg (p := Aq) hc hd
   have := By Aq u (0 + 1)
   have := Bp (p := Aq) (t := u) (a := 0) (by omega)
   simp only; omega
  ·rename_i h1 h2
   rw [if_neg h1, if_neg h2] at hr
   simp only [Bool.not_eq_true', decide_eq_false_iff_not] at hr
   simp only
   have hl : (symW u).length ≤ u.length := by
    unfold symW
    cases hf : symsL.find? (Bt u) with
    | none => simp
    | some y => exact ((Cs _ _).1 (List.find?_some hf)).length_le
   have : (symW u).length ≠ 0 := fun e => hr (List.eq_nil_of_length_eq_zero e)
   omega
theorem madeTok : (madeCells (Value.agg #[.int .i64 0, AK [], .int .i64 0]).cells (1 * 3)).toList = [.int .i64 0, AK [], .int .i64 0] := by kernel_rfl
theorem reflex_ok (w : World) (t : List UInt8) : Fn Tryz.prog 58 [AK t] w fun v w' => ∃ a c e q ts, v = .tuple #[.slice a ts.length c, .int .i64 e, .int .i64 q] ∧ Ext w w' ∧ Toks w' a c ts ∧
  ((DE t = .ok ts ∧ e = 0 ∧ q = -1) ∨ ∃ p : Nat, DE t = .error (e, p) ∧ e ≠ 0 ∧ q = (p : Int) ∧ ts = []) := by
 have hnil : ∀ W : World, Toks W none 0 [] := fun W => ⟨none, 0, rfl, by simp, by omega, fun _ => rfl, .inl rfl⟩
 refine Ae Tryz.func58 rfl Tryz.ntmps58 (Nat.le_of_ble_eq_true rfl) (by kernel_rfl) ?_
 repeat refine nx rfl ?_
 refine AA (AC (Aa rfl (AC (AH rfl (AC (AH rfl ?_))))))
 repeat refine nx rfl ?_
 by_cases hl : 6000 < t.length
 ·refine AA (AU rfl (Aw rfl (DF rfl rfl (by omega) ?_)))
  repeat refine nx rfl ?_
  refine AA (AC (Aa rfl (AC (AH rfl (AC (AH rfl ?_))))))
  repeat refine nx rfl ?_
  exact fin_ret3 rfl ⟨none, 0, 2, 6000, [], rfl, Ext.refl _, hnil _, .inr ⟨6000, by unfold DE; rw [if_pos hl], by decide, rfl, rfl⟩⟩
 have hlex := lexM_of (t := t) (by omega)
 refine AA (AU rfl (Aw rfl (DH rfl rfl (by omega) ?_)))
 repeat first | refine nx rfl ?_ | refine nf rfl ?_
 refine AA ?_
 refine AW (out := []) rfl (by omega) (by kernel_rfl) (fun w1 n1 => ?_)
 have o1 := n1.own (n := 0) (size := 3) rfl (by unfold maxLen; omega) (Nat.le_refl _)
 have z1 := n1.size
 refine AC (Aa rfl ?_)
 repeat refine nx rfl ?_
 refine AA (AU rfl ?_)
 refine AS (gap_ok t w1 (by omega)) rfl ?_
 rintro v w2 ⟨rfl, rfl⟩
 refine AC (AH rfl ?_)
 repeat refine nx rfl ?_
 have hg0 := gapW_ge t _ 0 (Nat.le_refl _) (by omega)
 have hsg0 := scan_gap t [] _ 0 (Nat.le_refl _) (by omega)
 refine BN (α := Nat × Value × List Tok) (fun x => [(0, AK t), (5, x.2.1), (6, .int .i64 (x.1 : Int))])
  (fun x W => x.1 ≤ t.length ∧ gapW t x.1 = x.1 ∧ x.2.2.length ≤ 2000 ∧ Ext w W ∧ w.heap.size < W.heap.size ∧ W.ownsRow w.heap.size 158 3 x.2.1 x.2.2.length (DI x.2.2) ∧ scanW t 0 [] = scanW t x.1 x.2.2) (fun x => t.length - x.1)
  (gapW t 0, .slice (some ⟨w.heap.size, 0, none⟩) 0 0, []) ⟨rfl, rfl, rfl, trivial⟩ ⟨hg0.2.1, hg0.2.2, by simp, n1.keep, by omega, o1, hsg0⟩ ?_
 rintro ⟨i, ov, ts⟩ w3 f3 ⟨hi, hgi, hc3, k3, z3, o3, hscan⟩
 simp only at hi hgi hc3 k3 z3 o3 hscan ⊢
 obtain ⟨oa, oc, rfl⟩ : ∃ oa oc, ov = .slice oa ts.length oc := by
  rcases o3.2 with ⟨rfl, h0⟩ | ⟨g, cap, cur, rfl, _⟩
  ·exact ⟨none, 0, by rw [h0]⟩
  ·exact ⟨_, _, rfl⟩
 repeat refine nx rfl ?_
 by_cases hlt : i < t.length
 ·have hdl : (t.drop i).length = t.length - i := by simp
  obtain ⟨hk0, hk1⟩ := gap_stop hlt hgi
  have hstep := step_next t i ts hlt hk0 hk1
  refine AA (AH rfl (AU rfl (Aw rfl (BG rfl rfl (by omega) ?_))))
  repeat refine nx rfl ?_
  refine AA (AU rfl (AH rfl (W_sslice_l rfl rfl (by omega) ?_)))
  refine AS (rnext_ok (t.drop i) w3 (by omega) (by omega)) rfl ?_
  rintro v w4 ⟨k4, rfl⟩
  generalize hnx : Ca (t.drop i) = x at hstep
  obtain ⟨kd, n, ok⟩ := x
  simp only at hstep
  have htext : (t.drop i).take n = (t.take (i + n)).drop i := by rw [List.drop_take]; congr 1; omega
  refine Bf rfl (Ab rfl rfl (Ab rfl rfl ?_))
  refine A7 (cs := [.int .i64 kd, AK ((t.drop i).take n), .int .i64 0]) rfl rfl (by rfl) (A5 rfl) (fun w5 n5 => ?_)
  have b5 := n5.blk
  have k5 : Ext w3 w5 := k4.trans n5.keep
  have z5 := k5.size
  have z45 := k4.size
  refine AC (AB rfl ?_)
  repeat refine nx rfl ?_
  refine AA (AB rfl (BB rfl (AJ ?_)))
  cases ok with
  | false =>
   rw [if_neg (by simp)] at hstep
   repeat refine nx rfl ?_
   refine AA (AH rfl (AC (Aa rfl (AC (AH rfl (AC (AH rfl ?_)))))))
   repeat refine nx rfl ?_
   refine fin_ret3 rfl ⟨none, 0, 40, i, [], rfl, k3.trans k5, hnil _, .inr ⟨i, ?_, by decide, rfl, rfl⟩⟩
   rw [hlex, hscan, DC hlt, hstep]
  | true =>
   rw [if_pos rfl] at hstep
   have hpos := nextM_pos (u := t.drop i) (by omega) (by rw [hnx])
   rw [hnx, hdl] at hpos
   simp only at hpos
   have htl : ((t.drop i).take n).length = n := by simp; omega
   repeat first | refine nx rfl ?_ | refine nf rfl ?_
   by_cases h2000 : ts.length = 2000
   ·have e : Ci t i ts kd (i + n) = .error (2, i) := by unfold Ci; rw [if_pos h2000]
    rw [e] at hstep
    refine AA (Aa rfl (Ap rfl (At rfl rfl (by omega) ?_)))
    repeat refine nx rfl ?_
    refine AA (AH rfl (AC (Aa rfl (AC (AH rfl (AC (AH rfl ?_)))))))
    repeat refine nx rfl ?_
    refine fin_ret3 rfl ⟨none, 0, 2, i, [], rfl, k3.trans k5, hnil _, .inr ⟨i, ?_, by decide, rfl, rfl⟩⟩
    rw [hlex, hscan, DC hlt, hstep]
   ·have e : Ci t i ts kd (i + n) = .ok (i + n, ts ++ [⟨kd, (t.take (i + n)).drop i, i⟩]) := by unfold Ci; rw [if_neg h2000]
    rw [e, ← htext] at hstep
    generalize hT : (t.drop i).take n = y at hstep b5 htl
    refine AA (Aa rfl (Ap rfl (AQ rfl rfl (by omega) ?_)))
    repeat first | refine nx rfl ?_ | refine nf rfl ?_
    refine AA (AH rfl (AD rfl ?_))
    refine Ah rfl rfl rfl b5 (by simp) (fun w6 p6 => ?_)
    have b6 : Blk w6 w4.heap.size 158 [.int .i64 kd, AK y, .int .i64 (i : Int)] := p6.blk
    have k6 : Ext w3 w6 := k5.keep p6.keep (by simp <;> omega)
    have z6 := p6.size
    repeat refine nx rfl ?_
    refine AA (Aa rfl (AV rfl (by assumption) (by rfl) ?_))
    refine AW (out := tokC ⟨kd, y, i⟩) rfl (by omega) (by rw [madeTok]; rfl) (fun w7 n7 => ?_)
    have o7 := n7.own (n := 1) (size := 3) rfl (by unfold maxLen; omega) (Nat.le_refl _)
    have z7 := n7.size
    have k7 : Ext w3 w7 := k6.trans n7.keep
    have b7 := b6.keep n7.keep (by simp)
    have hown : ∀ x ∈ (Value.slice oa ts.length oc).ownBlock.toList, w.heap.size ≤ x ∧ x < w3.heap.size := fun x hx => Br o3 (Option.mem_toList.1 hx)
    refine CU (ok := A1) (v := .slice oa ts.length oc) rfl rfl (B4 o3 k7) (BJ o7 fun _ _ => trivial) (by omega) rfl rfl (A5 rfl) (by omega) (by omega) (by omega) (fun v8 w8 a8 => ?_)
    have o8 := a8.own
    have z8 := a8.keep.size
    have b8 := b7.keep a8.keep (fun hx => by have := hown _ hx; omega)
    have k8 : Ext w w8 := (k3.trans k7).keep a8.keep (fun x hx => (hown x hx).1)
    refine AC (A0 ?_)
    repeat refine nx rfl ?_
    (refine AA (AH rfl (AD rfl (AF rfl (Blk.cell (by assumption) (by rfl)) ?_))) <;> refine Aw rfl (BU rfl rfl (by first | exact Ao (by omega) (by omega) | exact Au (by omega) (by omega) | exact An (by omega) (by omega)) ?_) <;> refine AC (AH rfl ?_))
    repeat refine nx rfl ?_
    have hin : (i : Int) + (y.length : Int) = ((i + n : Nat) : Int) := by rw [htl]; omega
    rw [hin]
    refine AA (AH rfl (AU rfl (AH rfl (W_sslice_l rfl rfl (by omega) ?_))))
    refine AS (gap_ok (t.drop (i + n)) w8 (by simp; omega)) rfl ?_
    rintro v w9 ⟨rfl, rfl⟩
    have hgd := gapW_drop t (a := i + n) (by omega)
    have hgg := gapW_ge t _ (i + n) (Nat.le_refl _) (by omega)
    have hsg := scan_gap t (ts ++ [⟨kd, y, i⟩]) _ (i + n) (Nat.le_refl _) (by omega)
    (refine BU rfl rfl (by first | exact Ao (by omega) (by omega) | exact Au (by omega) (by omega) | exact An (by omega) (by omega)) ?_ <;> refine AC (AH rfl ?_))
    repeat refine nx rfl ?_
    refine ⟨(gapW t (i + n), v8, ts ++ [⟨kd, y, i⟩]), ⟨rfl, ⟨rfl, rfl, ?_, trivial⟩, ⟨hgg.2.1, hgg.2.2, by simp; omega, k8, by omega, ?_, ?_⟩⟩, by simp only; omega⟩
    ·show Value.int .i64 (((i + n : Nat) : Int) + (gapW (t.drop (i + n)) 0 : Int)) = _
     rw [hgd]; rw [← Int.natCast_add]
    ·have e1 : DI (ts ++ [⟨kd, y, i⟩]) = DI ts ++ tokC ⟨kd, y, i⟩ := by simp [DI]
     rw [e1, List.length_append]
     exact o8
    ·rw [hscan, DC hlt, hstep]
     exact hsg
 ·obtain rfl : i = t.length := by omega
  refine AA (AH rfl (AU rfl (Aw rfl (BH rfl rfl (by omega) ?_))))
  repeat first | refine nx rfl ?_ | refine nf rfl ?_
  refine AA (Aa rfl (AC (Aa rfl (AC (AH rfl (AC (AH rfl ?_)))))))
  repeat refine nx rfl ?_
  refine fin_ret3 rfl ⟨oa, oc, 0, -1, ts, rfl, k3, BJ (ok := A1) o3 (fun _ _ => trivial), .inl ⟨?_, rfl, rfl⟩⟩
  rw [hlex, hscan, scanW_end]
end Go.Proofs.YtfcgdbmoncnibaaGreatDoor
