/- Loose kernels: formula.bare, loose, IsKernel. A list of formulas in a variable, appended to. past.loose, hasNodes, Nodes. The mode in which it is told that fresh cells are not frozen. past.Nodes. Pointers unequal; loops in which marks grow. past.isList, for lists that are node lists. Bits. Memories: past.isMemory, memoryOf. past.Start. past.Put. Conditions: none. -/
import Derived.Test.YtkhhjdjmhbdjfaaGreatDoorQT6

namespace Go.Proofs.YtkhhjdjmhbdjfaaGreatDoor
open Go.RowKit
set_option linter.unusedVariables false
variable {mk : Prop} [MK mk]
def negOk (f : Fml) : Bool := match f.args with
 | a :: _ => decide (a.op = 3)
 | [] => false
def bareN (x : Nd) : Bool := ((BR x.1.op).loose && shapeF x.1 && !((BR x.1.op).future && x.2)) && (if x.1.op = 4 then negOk x.1 else true)
def bareG (f : Fml) : Bool := (Ct false f).all bareN
theorem bare_ok (w : World) (b o : Nat) (f : Fml) (hf : PF As w b o f) (hG : GF w) (hK : KY w) (hN : 3 ≤ w.heap.size) (hd : dpF f ≤ 5000) (hz : szF f ≤ 1000000) : Fn Tryz.prog 71 [.pointer (some ⟨b, o, none⟩)] w fun u w' => u = .bool (bareG f) ∧ Ext w w' := by
 have hflt := hf.lt
 refine CK Tryz.func71 rfl Tryz.ntmps71 (Nat.le_of_ble_eq_true rfl) (by kernel_rfl) ?_
 repeat refine nx rfl ?_
 (refine AA ?_; refine Ar (fun w2 n2 => ?_))
 repeat refine nx rfl ?_
 have z2 := n2.size
 have b2 : Blk w2 w.heap.size 4 [.bool false] := n2.blk
 have k2 := n2.keep
 have hf2 : PF (fun b => b ≠ w.heap.size) w2 b o f := (hflt.keep k2 (fun _ _ => by simp)).mono fun x hx => by have := hx.2; omega
 refine AA (AP rfl ?_)
 refine AQ (nodes_ok w2 b o) rfl ?_
 rintro _ w4 ⟨rfl, n4⟩
 repeat refine nx rfl ?_
 refine C_allNodes bareN rfl (by kernel_rfl) rfl (b2.keep n4.keep (by simp)) n4.blk (hf2.keep n4.keep (fun _ _ => by simp)) (hG.ext (k2.trans n4.keep)) (by omega) hd (fun l b' o' x i W hsz => ?_) (fun W kW bW dW => ?_)
 ·repeat refine nx rfl ?_
  refine AA (AC (AP rfl ?_))
  repeat refine nx rfl ?_
  refine AA (AC (AB rfl ?_))
  repeat refine nx rfl ?_
  refine ⟨rfl, fun W2 e2 hx hb => ?_⟩
  have ee := (k2.trans n4.keep).trans e2
  have hG2 := hG.ext ee
  repeat refine nx rfl ?_
  have c0 := hx.opc
  refine AA (AP rfl (AH rfl (AD rfl (AF rfl (by assumption) ?_))))
  refine AQ (formOf_ok W2 x.op hG2) rfl ?_
  rintro _ W3 ⟨rfl, e3⟩
  refine Cj rfl (BA rfl rfl (BA rfl rfl ?_))
  refine Cv (cs := Bj (BR x.op)) rfl rfl (by rfl) (formC_one _) (fun W4 n5 => ?_)
  refine AC (AB rfl ?_)
  repeat refine nx rfl ?_
  have bx := n5.blk
  have e4 := e3.trans n5.keep
  have hp : bareN (x, i) = (((BR x.op).loose && shapeF x && !((BR x.op).future && i)) && (if x.op = 4 then negOk x else true)) := rfl
  have hla := CQ x.args
  have hsx' := BW x
  have hsh := shaped_ok W4 b' o' x ((hx.keep e4 (fun _ _ => by simp)).mono fun _ _ => trivial) (hG2.ext e4) (hK.keep (ee.trans e4) (by simp)) (by omega)
  have hsl : x.op = 4 → shapeF x = true → x.args.length = 1 := fun h4 hs => by
   unfold shapeF at hs
   rw [h4] at hs
   simp [BR, isOpB, formsL, shapeX] at hs
   omega
  rw [hp]
  clear hp
  generalize BR x.op = y at bx ⊢
  obtain ⟨xl, xm, xv, xb, xn, xp, xf, xo⟩ := y
  cases xo with
  | false =>
   (refine AA (AD rfl (AF rfl (Blk.cell (by assumption) (by rfl)) ?_)) <;> refine Ak rfl (AB rfl (AL rfl ?_)))
   refine AL rfl (AL rfl (AK rfl (AB rfl (AB rfl (AL rfl (AL rfl (AL rfl (AL rfl (AL rfl (AK rfl (AB rfl ?_)))))))))))
   repeat refine nx rfl ?_
   refine AA ?_
   refine Aa (v := .bool false) rfl rfl rfl (hb.keep e4 (by simp)) (by simp) (fun W9 p9 => ?_)
   repeat refine nx rfl ?_
   exact ⟨rfl, (e4).any.trans p9.keep (fun _ h _ => h), p9.blk⟩
  | true =>
   (refine AA (AD rfl (AF rfl (Blk.cell (by assumption) (by rfl)) ?_)) <;> refine Ak rfl (AB rfl (AE rfl (AP rfl ?_))))
   refine AE rfl (AQ hsh rfl ?_)
   rintro _ W5 ⟨rfl, e5⟩
   have e45 := e4.trans e5
   cases hs : shapeF x with
   | false =>
    refine AE rfl (Ak rfl (AJ rfl (AB rfl (AB rfl (AL rfl (AL rfl (AL rfl (AL rfl (AL rfl (AK rfl (AB rfl ?_)))))))))))
    repeat refine nx rfl ?_
    refine AA ?_
    refine Aa (v := .bool false) rfl rfl rfl (hb.keep e45 (by simp)) (by simp) (fun W9 p9 => ?_)
    repeat refine nx rfl ?_
    exact ⟨rfl, (e45).any.trans p9.keep (fun _ h _ => h), p9.blk⟩
   | true =>
   replace bx := bx.keep e5 (by simp)
   by_cases hfi : xf = true ∧ i = true
   ·obtain ⟨rfl, rfl⟩ := hfi
    (refine AE rfl (Ak rfl (AJ rfl (AB rfl (AB rfl (AE rfl (AD rfl (AE rfl (AF rfl (Blk.cell (by assumption) (by rfl)) ?_)))))))) <;> refine AE rfl (AB rfl (AE rfl (AB rfl (AE rfl (AK rfl (AB rfl (AJ rfl (AB rfl ?_)))))))))
    repeat refine nx rfl ?_
    refine AA ?_
    refine Aa (v := .bool false) rfl rfl rfl (hb.keep e45 (by simp)) (by simp) (fun W9 p9 => ?_)
    repeat refine nx rfl ?_
    exact ⟨rfl, (e45).any.trans p9.keep (fun _ h _ => h), p9.blk⟩
   have hnf : (!(xf && i)) = true := by cases xf <;> cases i <;> simp_all
   have hx5 := hx.keep e45 (fun _ _ => by simp)
   obtain ⟨aa, cc, _, q0, _, _, _, q4, qa⟩ := hx5.all
   cases xf <;> cases i
   case true.true => simp at hfi
   all_goals
    (refine AE rfl (Ak rfl (AJ rfl (AB rfl (AB rfl (AE rfl (AD rfl (AE rfl (AF rfl (Blk.cell (by assumption) (by rfl)) ?_)))))))) <;> refine AE rfl (AB rfl ?_) <;> (first | refine AL rfl ?_ | (refine AE rfl ?_; refine AB rfl ?_)) <;> (refine AE rfl ?_; ((first | refine AK rfl ?_ | refine AJ rfl ?_); refine AB rfl ?_)) <;> refine AJ rfl (AB rfl ?_))
    repeat first | refine nx rfl ?_ | refine nf rfl ?_
    by_cases h4 : x.op = 4
    ·have hl1 := hsl h4 hs
     obtain ⟨a, ha⟩ : ∃ a, x.args = [a] := by
      match hxa : x.args, hl1 with
      | [a], _ => exact ⟨a, rfl⟩
     obtain ⟨b2', o2', rfl, hpa⟩ := qa 0 a (by rw [ha]; rfl)
     have q5 := hpa.opc
     have hne : negOk x = decide (a.op = 3) := by unfold negOk; rw [ha]
     by_cases h3 : a.op = 3
     ·rw [if_pos h4, hne, decide_eq_true h3]
      (refine AA (AP rfl (AH rfl (AD rfl (AF rfl (by assumption) ?_)))) <;> refine Ai rfl rfl (by omega) (AB rfl (AE rfl (AP rfl (AE rfl (AH rfl (AE rfl (AD rfl (AE rfl (AF rfl (by assumption) ?_))))))))) <;> refine AE rfl (Aq rfl rfl (by omega) (by omega) (AE rfl (AD rfl (AE rfl (AF rfl (by assumption) ?_))))) <;> refine AE rfl (W_neqF rfl rfl (by omega) (AK rfl (AB rfl ?_))))
      repeat first | refine nx rfl ?_ | refine nf rfl ?_
      exact ⟨rfl, e45⟩
     ·rw [if_pos h4, hne, decide_eq_false h3]
      (refine AA (AP rfl (AH rfl (AD rfl (AF rfl (by assumption) ?_)))) <;> refine Ai rfl rfl (by omega) (AB rfl (AE rfl (AP rfl (AE rfl (AH rfl (AE rfl (AD rfl (AE rfl (AF rfl (by assumption) ?_))))))))) <;> refine AE rfl (Aq rfl rfl (by omega) (by omega) (AE rfl (AD rfl (AE rfl (AF rfl (by assumption) ?_))))) <;> refine AE rfl (W_neqT rfl rfl (by omega) (AK rfl (AB rfl ?_))))
      repeat refine nx rfl ?_
      refine AA ?_
      refine Aa (v := .bool false) rfl rfl rfl (hb.keep e45 (by simp)) (by simp) (fun W9 p9 => ?_)
      repeat refine nx rfl ?_
      exact ⟨rfl, e45.any.trans p9.keep (fun _ h _ => h), p9.blk⟩
    ·rw [if_neg h4]
     (refine AA (AP rfl (AH rfl (AD rfl (AF rfl (by assumption) ?_)))) <;> refine AT rfl rfl (by omega) (AB rfl (AL rfl (AL rfl (AL rfl (AL rfl (AL rfl (AL rfl (AL rfl (AL rfl (AJ rfl (AB rfl ?_))))))))))))
     repeat first | refine nx rfl ?_ | refine nf rfl ?_
     exact ⟨rfl, e45⟩
 ·have z4 := n4.size
  unfold bareG
  have e9 : Ext w W := (k2.trans n4.keep).keep kW (fun x hx => by simp at hx; omega)
  cases hp : (Ct false f).all bareN with
  | true =>
   rw [if_pos rfl]
   repeat refine nx rfl ?_
   refine AA ?_
   refine Aa (v := .bool true) rfl rfl rfl bW (by simp) (fun W5 p5 => ?_)
   repeat refine nx rfl ?_
   refine Bl ((p5.keep.block _ (Array.getElem?_eq_some_iff.1 dW).1 (by simp; omega)).trans dW) fun w9 k9 s9 => ?_
   exact BU (CL rfl ((p5.blk.keep k9 (by simp; omega)).cell (o := 0) rfl) ⟨rfl, (e9.keep p5.keep (fun x hx => by simp at hx; omega)).keep k9 (fun x hx => by simp at hx; omega)⟩)
  | false =>
   rw [if_neg (by simp)]
   repeat refine nx rfl ?_
   refine Bl dW fun w9 k9 s9 => ?_
   exact BU (CL rfl ((bW.keep k9 (by simp; omega)).cell (o := 0) rfl) ⟨rfl, e9.keep k9 (fun x hx => by simp at hx; omega)⟩)
def Cc (f : Fml) : Bool := decide (szF f ≤ 400) && decide (dpF f ≤ 60) && bareG f
def Ci (f : Fml) : Bool := decide (szF f ≤ 60) && decide (dpF f ≤ 20) && bareG f
theorem loose_ok (w : World) (b o : Nat) (f : Fml) (hf : PF As w b o f) (hG : GF w) (hK : KY w) (hN : 3 ≤ w.heap.size) : Fn Tryz.prog 39 [.pointer (some ⟨b, o, none⟩)] w fun u w' => u = .bool (Cc f) ∧ Ext w w' := by
 refine AR Tryz.func39 rfl Tryz.ntmps39 (Nat.le_of_ble_eq_true rfl) (by kernel_rfl) ?_
 repeat refine nx rfl ?_
 refine AA (AC (AB rfl ?_))
 repeat refine nx rfl ?_
 refine AA (AP rfl ?_)
 refine AQ (within_ok w b o f 400 60 (by omega) (by omega) (hf.lt.mono fun _ h => h.2)) rfl ?_
 rintro _ w1 ⟨rfl, k1⟩
 unfold Cc
 cases hsz : (decide (szF f ≤ 400) && decide (dpF f ≤ 60)) with
 | false =>
  refine AB rfl (AL rfl ?_)
  refine AL rfl (AJ rfl (AB rfl (AC (AB rfl ?_))))
  repeat refine nx rfl ?_
  exact AI rfl ⟨rfl, k1⟩
 | true =>
  simp at hsz
  refine AB rfl (AE rfl (AP rfl ?_))
  refine AE rfl (AQ (bare_ok w1 b o f (hf.keep k1 (fun _ _ => by simp)) (hG.ext k1) (hK.keep k1 (by simp)) (Nat.le_trans hN k1.size) (by omega) (by omega)) rfl ?_)
  rintro _ w2 ⟨rfl, k2⟩
  refine AK rfl (AB rfl (AC (AB rfl ?_)))
  repeat refine nx rfl ?_
  exact AI rfl ⟨rfl, k1.trans k2⟩
theorem iskernel_ok (w : World) (v : Value) (f : Fml) (hf : FAt As w v f) (hG : GF w) (hK : KY w) (hN : 3 ≤ w.heap.size) : Fn Tryz.prog 55 [v] w fun u w' => u = .bool (Ci f) ∧ Ext w w' := by
 obtain ⟨cs, rfl, hcs, hone⟩ := hf.cells
 refine AR Tryz.func55 rfl Tryz.ntmps55 (Nat.le_of_ble_eq_true rfl) (by kernel_rfl) ?_
 repeat refine nx rfl ?_
 (refine AA ?_; refine A5 (L := cs) rfl (fun w0 n0 => ?_))
 refine AC (AB rfl ?_)
 repeat refine nx rfl ?_
 have k0 := n0.keep
 have hf0 : PF As w0 w.heap.size 0 f := ⟨trivial, cs, hcs, n0.blk.cells, hf.ext k0⟩
 refine AA ?_
 refine AQ (within_ok w0 w.heap.size 0 f 60 20 (by omega) (by omega) (hf0.lt.mono fun _ h => h.2)) rfl ?_
 rintro _ w1 ⟨rfl, k1⟩
 unfold Ci
 cases hsz : (decide (szF f ≤ 60) && decide (dpF f ≤ 20)) with
 | false =>
  refine AB rfl ?_
  refine AL rfl (AJ rfl (AB rfl (AC (AB rfl ?_))))
  repeat refine nx rfl ?_
  exact AI rfl ⟨rfl, k0.trans k1⟩
 | true =>
  simp at hsz
  refine AB rfl ?_
  refine AE rfl (AQ (bare_ok w1 w.heap.size 0 f (hf0.keep k1 (fun _ _ => by simp)) (hG.ext (k0.trans k1)) (hK.keep (k0.trans k1) (by simp)) (Nat.le_trans hN (k0.trans k1).size) (by omega) (by omega)) rfl ?_)
  rintro _ w2 ⟨rfl, k2⟩
  refine AK rfl (AB rfl (AC (AB rfl ?_)))
  repeat refine nx rfl ?_
  exact AI rfl ⟨rfl, (k0.trans k1).trans k2⟩
end Go.Proofs.YtkhhjdjmhbdjfaaGreatDoor
namespace Go.Proofs.YtkhhjdjmhbdjfaaGreatDoor
open Go.RowKit
set_option linter.unusedVariables false
variable {mk : Prop} [MK mk]
theorem B6 {w : World} {B e n : Nat} {v : Value} {xs zs cs : List Value} (h : w.ownsRow B e 5 v (n + 1) (xs ++ zs)) (hx : xs.length = n * 5) (hc : cs.length = 5) :
  ∃ g cap L, v = .slice (some ⟨g, 0, none⟩) (n + 1) cap ∧ B ≤ g ∧ Blk w g e L ∧ n * 5 + 5 ≤ L.length ∧ ∀ w', Put w w' g e (splice L (n * 5) cs) → w'.ownsRow B e 5 v (n + 1) (xs ++ cs) := by
 obtain ⟨hl, hv⟩ := h
 rcases hv with ⟨_, h0⟩ | ⟨g, cap, cur, rfl, hB, hg, h1, h2, h3, h4⟩
 ·omega
 ·have hlen : n * 5 + 5 ≤ cur.toList.length := by
   have : (n + 1) * 5 ≤ cap * 5 := Nat.mul_le_mul_right 5 h1
   simp; omega
  refine ⟨g, cap, cur.toList, rfl, hB, by simpa [Blk] using hg, hlen, fun w' hp => ⟨by simp [hx, hc]; omega, .inr ⟨g, cap, (splice cur.toList (n * 5) cs).toArray, rfl, hB, hp.blk, h1, h2, ?_, ?_⟩⟩⟩
  ·simp [splice, hc]; simp at hlen; omega
  ·have ht : cur.toList.take (n * 5) = xs := by
    have := congrArg (List.take (n * 5)) h4
    rw [List.take_take, Nat.min_eq_left (by omega), List.take_append_of_le_length (by omega), ← hx, List.take_length] at this
    rw [← hx]; exact this
   simp only [splice, ht]
   rw [← List.append_assoc, List.take_append_of_le_length (by simp [hx, hc]; omega), List.take_of_length_le (by simp [hx, hc]; omega)]
structure Lst (B : Nat) (Z : List Nat) (W : World) (c : Nat) (l : List Fml) (v : Value) (L : List (List Value)) : Prop where
 cB : c < B
 cZ : c ∉ Z
 blk : Blk W c 23 [v]
 own : W.ownsRow B 25 5 v l.length L.flatten
 fs : FsAt (fun b => (B ≤ b ∧ b ∉ Z) ∧ v.ownBlock ≠ some b) W L l
 ne : ∀ g, v.ownBlock = some g → g ∉ Z
theorem Lst.keep {B : Nat} {Z Z' : List Nat} {W W' : World} {Y : List Nat} {c : Nat} {l : List Fml} {v : Value} {L : List (List Value)} (h : Lst B Z W c l v L) (k : Keep Y W W') (hY : ∀ y ∈ Y, y ∈ Z) (hZ : ∀ z ∈ Z', z ∈ Z ∨ (W.heap.size ≤ z ∧ z < W'.heap.size)) : Lst B Z' W' c l v L := by
 have hc := h.blk.lt
 refine ⟨h.cB, fun hz => (hZ c hz).elim h.cZ fun e => by omega, h.blk.keep k fun hy => h.cZ (hY c hy), Ag h.own k fun g hg hy => h.ne g hg (hY g hy), ?_, fun g hg hz => (hZ g hz).elim (h.ne g hg) fun e => by have := (Aw h.own hg).2; omega⟩
 refine (h.fs.lt.keep k fun b hb hy => hb.1.1.2 (hY b hy)).mono fun b hb => ⟨⟨hb.1.1.1, fun hz => (hZ b hz).elim hb.1.1.2 fun e => by have := hb.2; omega⟩, hb.1.2⟩
theorem Lst.start {B : Nat} {W : World} {c : Nat} (h : Blk W c 23 [.slice none 0 0]) (hc : c < B) : Lst B [] W c [] (.slice none 0 0) [] :=
 ⟨hc, by simp, h, ⟨rfl, .inl ⟨rfl, rfl⟩⟩, FsAt.nil _ _, fun g hg => by cases hg⟩
theorem Lst.sl {B : Nat} {Z : List Nat} {W : World} {c : Nat} {l : List Fml} {v : Value} {L : List (List Value)} (h : Lst B Z W c l v L) : SlAt fmlR (fun b => B ≤ b) W v l := by
 have hS := Az (ok := fun b => B ≤ b) h.own fun g hg => (Aw h.own hg).1
 obtain ⟨a, cp, rfl, _⟩ := id hS
 exact ⟨a, cp, L, rfl, hS, h.fs.1, fun k d x hd hx => ⟨h.fs.2.1 d (List.mem_of_getElem? hd), (h.fs.2.2 k d x hd hx).mono fun b hb => hb.1.1⟩⟩
theorem Lst.push {B : Nat} {Z : List Nat} {W W4 : World} {c g0 : Nat} {l : List Fml} {v v7 : Value} {L : List (List Value)} {cs : List Value} {g : Fml} (h : Lst B Z W c l v L) (hZ : ∀ z ∈ Z, z < W.heap.size)
  (hf : FAt (fun b => (B ≤ b ∧ b ∉ Z) ∧ v.ownBlock ≠ some b) W (.agg cs.toArray) g) (hcs : cs.length = 5) (hg : v7.ownBlock = some g0) (hg0 : v.ownBlock = some g0 ∨ g0 = W.heap.size) (hB : B ≤ W.heap.size)
  (k : Keep (c :: g0 :: v.ownBlock.toList) W W4) (hq : Blk W4 c 23 [v7]) (ho : W4.ownsRow B 25 5 v7 (l.length + 1) (L.flatten ++ cs)) : Lst B Z W4 c (l ++ [g]) v7 (L ++ [cs]) ∧ ∀ y ∈ c :: g0 :: v.ownBlock.toList, y = c ∨ (B ≤ y ∧ y ∉ Z) := by
 have hmem : ∀ {b}, b ∈ v.ownBlock.toList → v.ownBlock = some b := fun hx => Option.mem_toList.1 hx
 have hgB : B ≤ g0 ∧ g0 ∉ Z := by
  rcases hg0 with e | e
  ·exact ⟨(Aw h.own e).1, h.ne g0 e⟩
  ·exact ⟨by omega, fun hz => by have := hZ g0 hz; omega⟩
 have hfin : ∀ {X : List (List Value)} {m : List Fml}, FsAt (fun b => (B ≤ b ∧ b ∉ Z) ∧ v.ownBlock ≠ some b) W X m → FsAt (fun b => (B ≤ b ∧ b ∉ Z) ∧ v7.ownBlock ≠ some b) W4 X m := fun hx => by
  refine ((hx.lt).keep k ?_).mono ?_
  ·rintro b ⟨hb, hlt⟩ hm
   rcases List.mem_cons.1 hm with rfl | hm
   ·have := h.cB; have := hb.1.1; omega
   rcases List.mem_cons.1 hm with rfl | hm
   ·rcases hg0 with e | e
    ·exact hb.2 e
    ·omega
   ·exact hb.2 (hmem hm)
  ·rintro b ⟨hb, hlt⟩
   refine ⟨hb.1, fun e => ?_⟩
   rw [hg] at e
   cases e
   rcases hg0 with e | e
   ·exact hb.2 e
   ·omega
 refine ⟨⟨h.cB, h.cZ, hq, ?_, hfin (FsAt.snoc h.fs hf hcs), fun b hb => by rw [hg] at hb; cases hb; exact hgB.2⟩, fun y hy => ?_⟩
 ·rw [List.length_append, List.flatten_append]
  simpa using ho
 ·rcases List.mem_cons.1 hy with rfl | hy
  ·exact .inl rfl
  rcases List.mem_cons.1 hy with rfl | hy
  ·exact .inr hgB
  ·exact .inr ⟨(Aw h.own (hmem hy)).1, h.ne y (hmem hy)⟩
end Go.Proofs.YtkhhjdjmhbdjfaaGreatDoor
namespace Go.Proofs.YtkhhjdjmhbdjfaaGreatDoor
open Go.RowKit
set_option linter.unusedVariables false
variable {mk : Prop} [MK mk]
theorem ploose_ok (w : World) (b o : Nat) (f : Fml) (hf : PF As w b o f) (hG : GF w) (hK : KY w) (hN : 3 ≤ w.heap.size) (hk : Ci f = true) : Fn Tryz.prog 23 [.pointer (some ⟨b, o, none⟩)] w fun u w' => u = .bool true ∧ Ext w w' := by
 obtain ⟨_, d, hd, hc, hfv⟩ := id hf
 refine AR Tryz.func23 rfl Tryz.ntmps23 (Nat.le_of_ble_eq_true rfl) (by kernel_rfl) ?_
 repeat refine nx rfl ?_
 refine AA (AC (AB rfl ?_))
 repeat refine nx rfl ?_
 refine AA (AP rfl (AH rfl ?_))
 refine Ao (L := d) rfl hd hc ?_
 refine AQ (iskernel_ok w _ f hfv hG hK hN) rfl ?_
 rintro _ w1 ⟨rfl, k1⟩
 rw [hk]
 refine AB rfl (AL rfl (AL rfl (AL rfl ?_)))
 refine AL rfl (AL rfl (AL rfl (AK rfl (AB rfl (AC (AB rfl ?_))))))
 repeat refine nx rfl ?_
 exact AI rfl ⟨rfl, k1⟩
theorem findI_mem {l : List Fml} {x : Fml} (h : x ∈ l) : 0 ≤ findI l x := by
 obtain ⟨i, hi⟩ := findN_mem h
 unfold findI; rw [hi]; simp
theorem hasNodes_ok (w : World) (v : Value) (l : List Fml) (b o : Nat) (f : Fml) (okl : Nat → Prop) (hl : SlAt fmlR okl w v l) (hg : PF As w b o f) (hu : ∀ b, okl b → Unm w b) (hz : ∀ x ∈ l, szF x ≤ 1000000) (hG : GF w) (hK : KY w) (hN : 3 ≤ w.heap.size) (hk : Ci f = true)
  (hall : ∀ x ∈ pnF f, x ∈ l) : Fn Tryz.prog 42 [v, .pointer (some ⟨b, o, none⟩)] w fun u w' => u = .bool true ∧ Ext w w' := by
 obtain ⟨a, c, rfl, hlm⟩ := hl.len
 have hll := hl.lt (show (0 : Nat) < 5 by omega)
 have hgl := hg.lt
 refine CK Tryz.func42 rfl Tryz.ntmps42 (Nat.le_of_ble_eq_true rfl) (by kernel_rfl) ?_
 repeat refine nx rfl ?_
 (refine AA ?_; refine A5 (L := [.slice a l.length c]) rfl (fun w1 n1 => ?_))
 refine Ar (fun w2 n2 => ?_)
 repeat refine nx rfl ?_
 have z1 := n1.size
 have z2 := n2.size
 have b1 := n1.blk.keep n2.keep (by simp)
 have b2 : Blk w2 w1.heap.size 4 [.bool false] := n2.blk
 have k2 := n1.keep.trans n2.keep
 refine AA (AP rfl ?_)
 refine AQ (ploose_ok w2 b o f ((hg.keep k2 (fun _ _ => by simp)).mono fun _ _ => trivial) (hG.ext k2) (hK.keep k2 (by simp)) (Nat.le_trans hN k2.size) hk) rfl ?_
 rintro _ w3 ⟨rfl, k3⟩
 refine Ak rfl ?_
 repeat first | refine nx rfl ?_ | refine nf rfl ?_
 refine AA (AP rfl ?_)
 refine AQ (pastNodes_ok w3 b o) rfl ?_
 rintro _ w4 ⟨rfl, n4⟩
 repeat refine nx rfl ?_
 have k4 := (k2.trans k3).trans n4.keep
 have b14 := b1.keep (k3.trans n4.keep) (by simp)
 have b24 := b2.keep (k3.trans n4.keep) (by simp)
 refine C_eachPn (X0 := []) (fun Z _ W => Ext w4 W ∧ ∀ z ∈ Z, w4.heap.size ≤ z) rfl (by kernel_rfl) rfl n4.blk (((hg.mono (ok' := fun _ => True) fun _ _ => trivial).keep k4 (fun _ _ => by simp)).mono fun _ _ => by simp) (by simp) ⟨Ext.refl _, by simp⟩ (fun Z Z' L W W' Y hi hk hY hZ => ?_) (fun l' b' o' x Z L W hP hA => ?_) (fun W Z kW hmZ hmW iW dW => ?_)
 ·have e := hi.1.keep hk fun y hy => hi.2 y (hY y hy)
  exact ⟨e, fun z hz => (hZ z hz).elim (hi.2 z) fun h => Nat.le_trans hi.1.size h.1⟩
 ·repeat refine nx rfl ?_
  refine AA (AC (AP rfl ?_))
  repeat refine nx rfl ?_
  refine ⟨rfl, fun W2 e2 hi hx => ?_⟩
  have e4 := k4.trans hi.1
  have hxl : x ∈ l := hall x (hP.subset (by simp))
  have hfi : 0 ≤ findI l x := findI_mem hxl
  have b12 := b14.keep hi.1 (by simp)
  repeat refine nx rfl ?_
  (refine AA (AF rfl (Blk.cell (by assumption) (by rfl)) ?_) <;> refine AP rfl ?_)
  refine AQ (find_ok W2 _ l b' o' x _ _ (hll.ext e4) hx (.inl fun b hb => (hu b hb.1).eq (e4.block b hb.2 (by simp))) hz) rfl ?_
  rintro _ W3 ⟨rfl, k3⟩
  refine Aj rfl rfl (by omega) ?_
  repeat first | refine nx rfl ?_ | refine nf rfl ?_
  exact ⟨rfl, KZ.of k3, hi.1.trans k3, hi.2⟩
 ·repeat refine nx rfl ?_
  have eW := k4.trans iW.1
  refine AA ?_
  refine Aa (v := .bool true) rfl rfl rfl (b24.keep iW.1 (by simp)) (by simp) (fun W5 p5 => ?_)
  repeat refine nx rfl ?_
  have z4 := k4.size
  refine Bl ((p5.keep.block _ hmW (by simp; have := n4.size; have := k3.size; omega)).trans dW) fun w9 k9 s9 => ?_
  exact BU (CL rfl ((p5.blk.keep k9 (by simp; have := k3.size; have := n4.size; omega)).cell (o := 0) rfl) ⟨rfl, (eW.keep p5.keep (fun x hx => by simp at hx; omega)).keep k9 (fun x hx => by simp at hx; omega)⟩)
end Go.Proofs.YtkhhjdjmhbdjfaaGreatDoor
namespace Go.Proofs.YtkhhjdjmhbdjfaaGreatDoor
theorem strMK : MK True := ⟨trivial⟩
end Go.Proofs.YtkhhjdjmhbdjfaaGreatDoor
namespace Go.Proofs.YtkhhjdjmhbdjfaaGreatDoor
open Go.RowKit
set_option linter.unusedVariables false
section
attribute [local instance 3000] strMK
theorem chF_val (f : Fml) : chF Fml.val f = f := chF_self fun _ _ => rfl
theorem nodes1_ok (w : World) (b o : Nat) (x : Fml) (hf : PF As w b o x) : Fn Tryz.prog 27 [.pointer (some ⟨b, o, none⟩)] w fun u w' => u = .int .i64 x.val ∧ Ext w w' := by
 obtain ⟨_, _, _, _, _, q2, _, _, _⟩ := hf.all
 refine AR Tryz.func27 rfl Tryz.ntmps27 (Nat.le_of_ble_eq_true rfl) (by kernel_rfl) ?_
 repeat refine nx rfl ?_
 refine AA (AC (AG rfl ?_))
 repeat refine nx rfl ?_
 (refine AA (AP rfl (AH rfl (AD rfl (AF rfl (by assumption) ?_)))) <;> refine AC (AG rfl ?_))
 repeat refine nx rfl ?_
 exact AI rfl ⟨rfl, Ext.refl _⟩
theorem valR_nodes (w : World) : ValR (.func (.func 27) #[] #[]) w (fun _ => True) Fml.val :=
 ⟨⟨_, [], inferInstance, rfl, fun W b o x _ hx _ _ => nodes1_ok W b o x (hx.mono fun _ _ => trivial)⟩, fun _ _ _ _ => trivial⟩
theorem pn_sz {f x : Fml} (h : x ∈ pnF f) : szF x ≤ szF f :=
 pn_sub (p := fun y => szF y ≤ szF f) (fun {op v b nm args} hy a ha => by have := BY ha; simp only [szF] at hy; omega) (Nat.le_refl _) h
theorem nodes_sz {f : Fml} {n : Nat} (h : szF f ≤ n) (L : List Fml) (x : Fml) (hP : L ++ [x] <+: pnF f) {y : Fml} (hy : y ∈ L.foldl addN []) : szF y ≤ n := by
 rcases mem_foldN L [] |>.1 hy with h' | h'
 ·cases h'
 ·exact Nat.le_trans (pn_sz (hP.subset (List.mem_append_left _ h'))) h
theorem foldN_len : ∀ (m l : List Fml), (m.foldl addN l).length ≤ l.length + m.length
 | [], l => by simp
 | x :: m, l => by
  have h := foldN_len m (addN l x)
  have : (addN l x).length ≤ l.length + 1 := by unfold addN; split <;> simp
  simp only [List.foldl_cons, List.length_cons]; omega
theorem pn_len : ∀ f : Fml, (pnF f).length ≤ szF f
 | .mk op nm v b args => by
  have := pn_lenL args
  rw [pnF, List.length_append]
  simp only [szF]
  split <;> simp <;> omega
where pn_lenL : ∀ l : List Fml, (pnL l).length ≤ szL l
 | [] => by simp [pnL]
 | f :: l => by
  have := pn_len f; have := pn_lenL l
  simp only [pnL, szL, List.length_append]; omega
theorem findI_neg {l : List Fml} {x : Fml} (h : findI l x < 0) : Cz l x = none := by
 unfold findI at h
 cases hf : Cz l x with
 | none => rfl
 | some i => rw [hf] at h; simp only at h; omega
theorem findI_pos {l : List Fml} {x : Fml} (h : ¬ findI l x < 0) : ∃ i, Cz l x = some i := by
 unfold findI at h
 cases hf : Cz l x with
 | none => rw [hf] at h; simp at h
 | some i => exact ⟨i, rfl⟩
theorem pnodes_ok (w : World) (v : Value) (f : Fml) (hf : FAt As w v f) (hG : GF w) (hK : KY w) (hN : 3 ≤ w.heap.size) (hk : Ci f = true) : Fn Tryz.prog 6 [v] w fun u w' => SlAt fmlR (fun b => w.heap.size ≤ b) w' u (BQ f) ∧ Ext w w' := by
 have hflt := hf.lt
 obtain ⟨cs, rfl, hcs, hone⟩ := hf.cells
 have hsz : szF f ≤ 60 := by simp [Ci] at hk; exact hk.1.1
 refine CK Tryz.func6 rfl Tryz.ntmps6 (Nat.le_of_ble_eq_true rfl) (by kernel_rfl) ?_
 repeat refine nx rfl ?_
 (refine AA ?_; refine A5 (L := cs) rfl (fun w1 n1 => ?_))
 refine AC (AM rfl ?_)
 repeat refine nx rfl ?_
 have hf1 : PF (fun b => b < w1.heap.size) w1 w.heap.size 0 f := ⟨n1.blk.lt, cs, hcs, n1.blk.cells, (hflt.ext n1.keep).mono fun x hx => by have := hx.2; have := n1.size; omega⟩
 refine AA ?_
 refine AQ (ploose_ok w1 w.heap.size 0 f (hf1.mono fun _ _ => trivial) (hG.ext n1.keep) (hK.keep n1.keep (by simp)) (Nat.le_trans hN n1.keep.size) hk) rfl ?_
 rintro _ w2 ⟨rfl, k2⟩
 refine Ak rfl ?_
 repeat first | refine nx rfl ?_ | refine nf rfl ?_
 (refine AA ?_; refine Ar (fun w3 n3 => ?_))
 repeat refine nx rfl ?_
 refine AA ?_
 refine AQ (pastNodes_ok w3 w.heap.size 0) rfl ?_
 rintro _ w4 ⟨rfl, n4⟩
 repeat refine nx rfl ?_
 have z1 := n1.size
 have z2 := k2.size
 have z3 := n3.size
 have z4 := n4.size
 have k14 := (k2.trans n3.keep).trans n4.keep
 have k4 := n1.keep.trans k14
 have b3 : Blk w4 w2.heap.size 23 [.slice none 0 0] := n3.blk.keep n4.keep (by simp)
 have hf4 := hf1.keep k14 (fun _ _ => by simp)
 refine C_eachPn (X0 := [w2.heap.size]) (fun Z L W => (∃ v Ls, Lst w4.heap.size Z W w2.heap.size (L.foldl addN []) v Ls) ∧ Keep [w2.heap.size] w4 W ∧ ∀ z ∈ Z, w4.heap.size ≤ z ∧ z < W.heap.size) rfl (by kernel_rfl) rfl n4.blk (hf4.mono fun x hx => by simp; omega) (by simp; omega) ⟨⟨_, _, Lst.start b3 (by omega)⟩, Keep.refl _ _, by simp⟩ (fun Z Z' L W W' Y hi hk hY hZ => ?_) (fun l' b' o' x Z L W hP hA => ?_) (fun W Z kW hmZ hmW iW dW => ?_)
 ·obtain ⟨⟨v, Ls, h1⟩, h2, h3⟩ := hi
  exact ⟨⟨v, Ls, h1.keep hk hY hZ⟩, h2.trans hk (fun y hy hlt => by have := h3 y (hY y hy); omega), fun z hz => (hZ z hz).elim (fun h => ⟨(h3 z h).1, Nat.lt_of_lt_of_le (h3 z h).2 hk.size⟩) fun h => ⟨Nat.le_trans h2.size h.1, h.2⟩⟩
 ·repeat refine nx rfl ?_
  refine AA (AC (AP rfl ?_))
  repeat refine nx rfl ?_
  refine ⟨rfl, fun W2 e2 hi hx => ?_⟩
  obtain ⟨⟨v, Ls, h1⟩, h2, h3⟩ := hi
  have hxp : x ∈ pnF f := hP.subset (by simp)
  obtain ⟨va, vc, rfl, _⟩ := h1.sl.len
  have hl60 : (L.foldl addN []).length ≤ 60 := by
   have h := foldN_len L []
   have h' := hP.length_le
   have := pn_len f
   simp at h h'; omega
  have b32 := h1.blk
  repeat refine nx rfl ?_
  (refine AA (AF rfl (Blk.cell (by assumption) (by rfl)) ?_) <;> refine AP rfl ?_)
  refine AQ (find_ok W2 _ _ b' o' x _ _ h1.sl hx (.inl fun b hb => h2.fresh hb) fun y hy => ?_) rfl ?_
  ·have := nodes_sz hsz L x hP hy; omega
  rintro _ W3 ⟨rfl, k3⟩
  have hxz : szF x ≤ 60 := Nat.le_trans (pn_sz hxp) hsz
  have h13 := h1.keep k3 (Z' := Z) (by simp) (fun z hz => .inl hz)
  have h23 := h2.ext k3
  have hx3 := hx.keep k3 (fun _ _ => by simp)
  ((refine W_lss rfl rfl (fun hc => ?_) (fun hc => ?_) <;> try omega) <;> refine AO ?_)
  all_goals
   repeat first | refine nx rfl ?_ | refine nf rfl ?_
  ·have hno := findI_neg hc
   have hadd : (L ++ [x]).foldl addN [] = L.foldl addN [] ++ [x] := by rw [List.foldl_append]; simp [addN, hno]
   rw [hadd]
   generalize L.foldl addN [] = l at h13 h1 hadd hl60 ⊢
   refine Ad (.read 1 (.alt 0 (.read 3 (.alt 2 (.alt 4 (.alt 5 (.read 6 (.alt 7 (.alt 8 .done .stop) (.alt 8 (.alt 7 .done .stop) .stop))) .stop) .stop) (.alt 4 (.alt 2 (.alt 5 (.read 6 (.alt 7 (.alt 8 .done .stop) (.alt 8 (.alt 7 .done .stop) .stop))) .stop) .stop) .stop))) (.alt 2 (.alt 0 (.read 3 (.alt 4 (.alt 5 (.read 6 (.alt 7 (.alt 8 .done .stop) (.alt 8 (.alt 7 .done .stop) .stop))) .stop) .stop)) (.alt 4 (.alt 0 (.read 3 (.alt 5 (.read 6 (.alt 7 (.alt 8 .done .stop) (.alt 8 (.alt 7 .done .stop) .stop))) .stop)) .stop) .stop)) (.alt 4 (.alt 0 (.read 3 (.alt 2 (.alt 5 (.read 6 (.alt 7 (.alt 8 .done .stop) (.alt 8 (.alt 7 .done .stop) .stop))) .stop) .stop)) (.alt 2 (.alt 0 (.read 3 (.alt 5 (.read 6 (.alt 7 (.alt 8 .done .stop) (.alt 8 (.alt 7 .done .stop) .stop))) .stop)) .stop) .stop)) .stop)))) Ax (by kernel_rfl) (fun wd kd ed => ⟨fun _ => True, ?_, ?_⟩)
   ·trivial
   have hLd := h13.keep kd (Z' := Z) (by simp) (fun z hz => .inl hz)
   have hxd := hx3.keep kd (fun _ _ => by simp)
   have eqd : Ext W3 wd := kd
   ((apply D_R rfl rfl; (intro W hW; refine AP rfl ?_; exact AO ⟨rfl, rfl, rfl⟩)))
   refine D_A rfl ?_ (D_A rfl ?_ (D_E rfl ?_))
   ·refine AF rfl (hLd.blk.cell (o := 0) rfl) ?_
    refine AO ⟨_, fun _ h => h, trivial, ?_⟩
    ((apply D_R rfl rfl; (intro W hW; refine AZ rfl ?_; exact AO ⟨rfl, rfl, rfl⟩)))
    refine D_A rfl ?_ (D_E rfl ?_)
    ·refine AQ (changed_ok (valR_nodes wd) (dpF x) wd b' o' x (Nat.le_refl _) (by omega) (Ext.refl _) ((hxd.lt).mono fun y hy => hy.2) trivial) rfl ?_
     rintro u wC ⟨kC, fC⟩
     rw [chF_val] at fC
     obtain ⟨cs', rfl, hcs', hone'⟩ := fC.cells
     have hLC := hLd.keep kC (Z' := Z) (by simp) (fun z hz => .inl hz)
     have hxC := hxd.keep kC (fun _ _ => by simp)
     have eqC := eqd.trans kC
     have zkC := kC.size
     refine AO ⟨_, fun _ h => h, trivial, ?_⟩
     refine D_E rfl ?_
     refine Ab (out := zero5) rfl (by omega) (by rw [CV]; rfl) (fun wB nB => ?_)
     have kB := nB.keep
     have oz := nB.own (n := 1) (size := 5) rfl (by unfold maxLen; omega) (Nat.le_refl _)
     have hLB := hLC.keep kB (Z' := Z) (by simp) (fun z hz => .inl hz)
     have hxB := hxC.keep kB (fun _ _ => by simp)
     have eqB := eqC.trans kB
     have zkB := kB.size
     refine AO ⟨_, fun _ h => h, trivial, ?_⟩
     replace fC := fC.ext kB
     have hzB : ∀ z ∈ Z, z < W3.heap.size := fun z hz => Nat.lt_of_lt_of_le (h3 z hz).2 k3.size
     have zs1 := eqd.size
     have zs2 := h23.size
     have zs3 := eqB.size
     have fE : FAt (fun b => (w4.heap.size ≤ b ∧ b ∉ Z) ∧ (Value.slice va l.length vc).ownBlock ≠ some b) wB (.agg cs'.toArray) x := fC.mono fun y hy => ⟨⟨by omega, fun hz => by have := hzB y hz; omega⟩, fun e => by have := (Aw hLd.own e).2; omega⟩
     refine D_E rfl ?_
     refine BD (ok := As) (v := .slice va l.length vc) rfl rfl hLB.own (Az oz fun _ _ => trivial) (by omega) rfl rfl (Ap rfl) (by omega) (by omega) (by omega) (fun v7 w7 a7 => ?_)
     refine AO ⟨_, fun _ h => h, trivial, ?_⟩
     obtain ⟨g0, cap7, M7, rfl, hg0B, bM, hlM, hset⟩ := B6 a7.own hLB.own.1 hcs'
     have hg0 : (Value.slice va l.length vc).ownBlock = some g0 ∨ g0 = wB.heap.size := a7.blk.imp (fun e => e.symm) (fun e => Option.some.inj e)
     have hcg : w2.heap.size ≠ g0 := by have := hLB.cB; omega
     have b7 := hLB.blk.keep a7.keep (fun hx => by have := (Aw hLB.own (Option.mem_toList.1 hx)).1; have := hLB.cB; omega)
     have hfit := fun V4 : World => hLB.push (W4 := V4) (g0 := g0) (v7 := .slice (some ⟨g0, 0, none⟩) (l.length + 1) cap7) (cs := cs') (fun z hz => Nat.lt_of_lt_of_le (hzB z hz) zs3) fE hcs' rfl hg0 (by omega)
     refine D_R rfl rfl (fun V hV => by refine Au (k := l.length) rfl rfl rfl (by omega) ?_; exact AO ⟨rfl, rfl, rfl⟩) ?_
     refine D_A rfl ?_ (D_E rfl ?_)
     ·refine AU (o := 0 + l.length * 5) rfl rfl hcs' hone' bM (by omega) (fun w8 p8 => ?_)
      refine AO ⟨_, fun _ h => h, trivial, ?_⟩
      refine D_E rfl ?_
      refine Aa rfl rfl rfl (b7.keep p8.keep (by simpa using hcg)) (by simp) (fun w9 p9 => ?_)
      refine AO ⟨_, fun _ h => h, trivial, ?_⟩
      refine Ah ?_
      have kf : Keep (w2.heap.size :: g0 :: (Value.slice va l.length vc).ownBlock.toList) wB w9 := ((a7.keep.mono fun x hx => by simp [hx]).trans p8.keep fun x hx _ => by simp at hx; simp [hx]).trans p9.keep fun x hx _ => by simp at hx; simp [hx]
      obtain ⟨hfin, hown⟩ := hfit w9 kf p9.blk (Ag (hset w8 (by simpa using p8)) p9.keep fun g hg => by cases hg; simpa using hcg.symm)
      repeat refine nx rfl ?_
      exact ⟨rfl, ⟨_, (k3.trans eqB).any.trans kf (fun _ h _ => h), fun y hy => by simpa using hown y hy⟩, ⟨_, _, hfin⟩, (h23.ext eqB).trans kf (fun y hy hlt => by rcases hown y hy with e | e; simp [e]; omega), fun z hz => ⟨(h3 z hz).1, Nat.lt_of_lt_of_le (hzB z hz) (Nat.le_trans zs3 kf.size)⟩⟩
     ·refine Aa rfl rfl rfl b7 (by simp) (fun w8 p8 => ?_)
      refine AO ⟨_, fun _ h => h, trivial, ?_⟩
      refine D_E rfl ?_
      refine AU (o := 0 + l.length * 5) rfl rfl hcs' hone' (bM.keep p8.keep (by simpa using hcg.symm)) (by omega) (fun w9 p9 => ?_)
      refine AO ⟨_, fun _ h => h, trivial, ?_⟩
      refine Ah ?_
      have kf : Keep (w2.heap.size :: g0 :: (Value.slice va l.length vc).ownBlock.toList) wB w9 := ((a7.keep.mono fun x hx => by simp [hx]).trans p8.keep fun x hx _ => by simp at hx; simp [hx]).trans p9.keep fun x hx _ => by simp at hx; simp [hx]
      obtain ⟨g0', cap7', M7', e7, _, bM', _, hset'⟩ := B6 (Ag a7.own p8.keep fun g hg => by cases hg; simpa using hcg.symm) hLB.own.1 hcs'
      cases e7
      obtain rfl : M7' = M7 := by
       have h1 := bM.keep p8.keep (by simpa using hcg.symm)
       unfold Blk at h1 bM'
       rw [h1] at bM'
       have := Option.some.inj bM'
       simpa using (Obj.cells.inj this).1.symm
      obtain ⟨hfin, hown⟩ := hfit w9 kf (p8.blk.keep p9.keep (by simpa using hcg)) (hset' w9 (by simpa using p9))
      repeat refine nx rfl ?_
      exact ⟨rfl, ⟨_, (k3.trans eqB).any.trans kf (fun _ h _ => h), fun y hy => by simpa using hown y hy⟩, ⟨_, _, hfin⟩, (h23.ext eqB).trans kf (fun y hy hlt => by rcases hown y hy with e | e; simp [e]; omega), fun z hz => ⟨(h3 z hz).1, Nat.lt_of_lt_of_le (hzB z hz) (Nat.le_trans zs3 kf.size)⟩⟩
    ·refine Ab (out := zero5) rfl (by omega) (by rw [CV]; rfl) (fun wB nB => ?_)
     have kB := nB.keep
     have oz := nB.own (n := 1) (size := 5) rfl (by unfold maxLen; omega) (Nat.le_refl _)
     have hLB := hLd.keep kB (Z' := Z) (by simp) (fun z hz => .inl hz)
     have hxB := hxd.keep kB (fun _ _ => by simp)
     have eqB := eqd.trans kB
     have zkB := kB.size
     refine AO ⟨_, fun _ h => h, trivial, ?_⟩
     refine D_E rfl ?_
     refine AQ (changed_ok (valR_nodes wB) (dpF x) wB b' o' x (Nat.le_refl _) (by omega) (Ext.refl _) ((hxB.lt).mono fun y hy => hy.2) trivial) rfl ?_
     rintro u wC ⟨kC, fC⟩
     rw [chF_val] at fC
     obtain ⟨cs', rfl, hcs', hone'⟩ := fC.cells
     have hLC := hLB.keep kC (Z' := Z) (by simp) (fun z hz => .inl hz)
     have hxC := hxB.keep kC (fun _ _ => by simp)
     have eqC := eqB.trans kC
     have zkC := kC.size
     refine AO ⟨_, fun _ h => h, trivial, ?_⟩
     replace oz := A4 oz kC
     have zsB := eqB.size
     have hzC : ∀ z ∈ Z, z < W3.heap.size := fun z hz => Nat.lt_of_lt_of_le (h3 z hz).2 k3.size
     have zs1 := eqd.size
     have zs2 := h23.size
     have zs3 := eqC.size
     have fE : FAt (fun b => (w4.heap.size ≤ b ∧ b ∉ Z) ∧ (Value.slice va l.length vc).ownBlock ≠ some b) wC (.agg cs'.toArray) x := fC.mono fun y hy => ⟨⟨by omega, fun hz => by have := hzC y hz; omega⟩, fun e => by have := (Aw hLd.own e).2; omega⟩
     refine D_E rfl ?_
     refine BD (ok := As) (v := .slice va l.length vc) rfl rfl hLC.own (Az oz fun _ _ => trivial) (by omega) rfl rfl (Ap rfl) (by omega) (by omega) (by omega) (fun v7 w7 a7 => ?_)
     refine AO ⟨_, fun _ h => h, trivial, ?_⟩
     obtain ⟨g0, cap7, M7, rfl, hg0B, bM, hlM, hset⟩ := B6 a7.own hLC.own.1 hcs'
     have hg0 : (Value.slice va l.length vc).ownBlock = some g0 ∨ g0 = wC.heap.size := a7.blk.imp (fun e => e.symm) (fun e => Option.some.inj e)
     have hcg : w2.heap.size ≠ g0 := by have := hLC.cB; omega
     have b7 := hLC.blk.keep a7.keep (fun hx => by have := (Aw hLC.own (Option.mem_toList.1 hx)).1; have := hLC.cB; omega)
     have hfit := fun V4 : World => hLC.push (W4 := V4) (g0 := g0) (v7 := .slice (some ⟨g0, 0, none⟩) (l.length + 1) cap7) (cs := cs') (fun z hz => Nat.lt_of_lt_of_le (hzC z hz) zs3) fE hcs' rfl hg0 (by omega)
     refine D_R rfl rfl (fun V hV => by refine Au (k := l.length) rfl rfl rfl (by omega) ?_; exact AO ⟨rfl, rfl, rfl⟩) ?_
     refine D_A rfl ?_ (D_E rfl ?_)
     ·refine AU (o := 0 + l.length * 5) rfl rfl hcs' hone' bM (by omega) (fun w8 p8 => ?_)
      refine AO ⟨_, fun _ h => h, trivial, ?_⟩
      refine D_E rfl ?_
      refine Aa rfl rfl rfl (b7.keep p8.keep (by simpa using hcg)) (by simp) (fun w9 p9 => ?_)
      refine AO ⟨_, fun _ h => h, trivial, ?_⟩
      refine Ah ?_
      have kf : Keep (w2.heap.size :: g0 :: (Value.slice va l.length vc).ownBlock.toList) wC w9 := ((a7.keep.mono fun x hx => by simp [hx]).trans p8.keep fun x hx _ => by simp at hx; simp [hx]).trans p9.keep fun x hx _ => by simp at hx; simp [hx]
      obtain ⟨hfin, hown⟩ := hfit w9 kf p9.blk (Ag (hset w8 (by simpa using p8)) p9.keep fun g hg => by cases hg; simpa using hcg.symm)
      repeat refine nx rfl ?_
      exact ⟨rfl, ⟨_, (k3.trans eqC).any.trans kf (fun _ h _ => h), fun y hy => by simpa using hown y hy⟩, ⟨_, _, hfin⟩, (h23.ext eqC).trans kf (fun y hy hlt => by rcases hown y hy with e | e; simp [e]; omega), fun z hz => ⟨(h3 z hz).1, Nat.lt_of_lt_of_le (hzC z hz) (Nat.le_trans zs3 kf.size)⟩⟩
     ·refine Aa rfl rfl rfl b7 (by simp) (fun w8 p8 => ?_)
      refine AO ⟨_, fun _ h => h, trivial, ?_⟩
      refine D_E rfl ?_
      refine AU (o := 0 + l.length * 5) rfl rfl hcs' hone' (bM.keep p8.keep (by simpa using hcg.symm)) (by omega) (fun w9 p9 => ?_)
      refine AO ⟨_, fun _ h => h, trivial, ?_⟩
      refine Ah ?_
      have kf : Keep (w2.heap.size :: g0 :: (Value.slice va l.length vc).ownBlock.toList) wC w9 := ((a7.keep.mono fun x hx => by simp [hx]).trans p8.keep fun x hx _ => by simp at hx; simp [hx]).trans p9.keep fun x hx _ => by simp at hx; simp [hx]
      obtain ⟨g0', cap7', M7', e7, _, bM', _, hset'⟩ := B6 (Ag a7.own p8.keep fun g hg => by cases hg; simpa using hcg.symm) hLC.own.1 hcs'
      cases e7
      obtain rfl : M7' = M7 := by
       have h1 := bM.keep p8.keep (by simpa using hcg.symm)
       unfold Blk at h1 bM'
       rw [h1] at bM'
       have := Option.some.inj bM'
       simpa using (Obj.cells.inj this).1.symm
      obtain ⟨hfin, hown⟩ := hfit w9 kf (p8.blk.keep p9.keep (by simpa using hcg)) (hset' w9 (by simpa using p9))
      repeat refine nx rfl ?_
      exact ⟨rfl, ⟨_, (k3.trans eqC).any.trans kf (fun _ h _ => h), fun y hy => by simpa using hown y hy⟩, ⟨_, _, hfin⟩, (h23.ext eqC).trans kf (fun y hy hlt => by rcases hown y hy with e | e; simp [e]; omega), fun z hz => ⟨(h3 z hz).1, Nat.lt_of_lt_of_le (hzC z hz) (Nat.le_trans zs3 kf.size)⟩⟩
   ·refine AQ (changed_ok (valR_nodes wd) (dpF x) wd b' o' x (Nat.le_refl _) (by omega) (Ext.refl _) ((hxd.lt).mono fun y hy => hy.2) trivial) rfl ?_
    rintro u wC ⟨kC, fC⟩
    rw [chF_val] at fC
    obtain ⟨cs', rfl, hcs', hone'⟩ := fC.cells
    have hLC := hLd.keep kC (Z' := Z) (by simp) (fun z hz => .inl hz)
    have hxC := hxd.keep kC (fun _ _ => by simp)
    have eqC := eqd.trans kC
    have zkC := kC.size
    refine AO ⟨_, fun _ h => h, trivial, ?_⟩
    refine D_A rfl ?_ (D_E rfl ?_)
    ·refine AF rfl (hLC.blk.cell (o := 0) rfl) ?_
     refine AO ⟨_, fun _ h => h, trivial, ?_⟩
     ((apply D_R rfl rfl; (intro W hW; refine AZ rfl ?_; exact AO ⟨rfl, rfl, rfl⟩)))
     refine D_E rfl ?_
     refine Ab (out := zero5) rfl (by omega) (by rw [CV]; rfl) (fun wB nB => ?_)
     have kB := nB.keep
     have oz := nB.own (n := 1) (size := 5) rfl (by unfold maxLen; omega) (Nat.le_refl _)
     have hLB := hLC.keep kB (Z' := Z) (by simp) (fun z hz => .inl hz)
     have hxB := hxC.keep kB (fun _ _ => by simp)
     have eqB := eqC.trans kB
     have zkB := kB.size
     refine AO ⟨_, fun _ h => h, trivial, ?_⟩
     replace fC := fC.ext kB
     have hzB : ∀ z ∈ Z, z < W3.heap.size := fun z hz => Nat.lt_of_lt_of_le (h3 z hz).2 k3.size
     have zs1 := eqd.size
     have zs2 := h23.size
     have zs3 := eqB.size
     have fE : FAt (fun b => (w4.heap.size ≤ b ∧ b ∉ Z) ∧ (Value.slice va l.length vc).ownBlock ≠ some b) wB (.agg cs'.toArray) x := fC.mono fun y hy => ⟨⟨by omega, fun hz => by have := hzB y hz; omega⟩, fun e => by have := (Aw hLd.own e).2; omega⟩
     refine D_E rfl ?_
     refine BD (ok := As) (v := .slice va l.length vc) rfl rfl hLB.own (Az oz fun _ _ => trivial) (by omega) rfl rfl (Ap rfl) (by omega) (by omega) (by omega) (fun v7 w7 a7 => ?_)
     refine AO ⟨_, fun _ h => h, trivial, ?_⟩
     obtain ⟨g0, cap7, M7, rfl, hg0B, bM, hlM, hset⟩ := B6 a7.own hLB.own.1 hcs'
     have hg0 : (Value.slice va l.length vc).ownBlock = some g0 ∨ g0 = wB.heap.size := a7.blk.imp (fun e => e.symm) (fun e => Option.some.inj e)
     have hcg : w2.heap.size ≠ g0 := by have := hLB.cB; omega
     have b7 := hLB.blk.keep a7.keep (fun hx => by have := (Aw hLB.own (Option.mem_toList.1 hx)).1; have := hLB.cB; omega)
     have hfit := fun V4 : World => hLB.push (W4 := V4) (g0 := g0) (v7 := .slice (some ⟨g0, 0, none⟩) (l.length + 1) cap7) (cs := cs') (fun z hz => Nat.lt_of_lt_of_le (hzB z hz) zs3) fE hcs' rfl hg0 (by omega)
     refine D_R rfl rfl (fun V hV => by refine Au (k := l.length) rfl rfl rfl (by omega) ?_; exact AO ⟨rfl, rfl, rfl⟩) ?_
     refine D_A rfl ?_ (D_E rfl ?_)
     ·refine AU (o := 0 + l.length * 5) rfl rfl hcs' hone' bM (by omega) (fun w8 p8 => ?_)
      refine AO ⟨_, fun _ h => h, trivial, ?_⟩
      refine D_E rfl ?_
      refine Aa rfl rfl rfl (b7.keep p8.keep (by simpa using hcg)) (by simp) (fun w9 p9 => ?_)
      refine AO ⟨_, fun _ h => h, trivial, ?_⟩
      refine Ah ?_
      have kf : Keep (w2.heap.size :: g0 :: (Value.slice va l.length vc).ownBlock.toList) wB w9 := ((a7.keep.mono fun x hx => by simp [hx]).trans p8.keep fun x hx _ => by simp at hx; simp [hx]).trans p9.keep fun x hx _ => by simp at hx; simp [hx]
      obtain ⟨hfin, hown⟩ := hfit w9 kf p9.blk (Ag (hset w8 (by simpa using p8)) p9.keep fun g hg => by cases hg; simpa using hcg.symm)
      repeat refine nx rfl ?_
      exact ⟨rfl, ⟨_, (k3.trans eqB).any.trans kf (fun _ h _ => h), fun y hy => by simpa using hown y hy⟩, ⟨_, _, hfin⟩, (h23.ext eqB).trans kf (fun y hy hlt => by rcases hown y hy with e | e; simp [e]; omega), fun z hz => ⟨(h3 z hz).1, Nat.lt_of_lt_of_le (hzB z hz) (Nat.le_trans zs3 kf.size)⟩⟩
     ·refine Aa rfl rfl rfl b7 (by simp) (fun w8 p8 => ?_)
      refine AO ⟨_, fun _ h => h, trivial, ?_⟩
      refine D_E rfl ?_
      refine AU (o := 0 + l.length * 5) rfl rfl hcs' hone' (bM.keep p8.keep (by simpa using hcg.symm)) (by omega) (fun w9 p9 => ?_)
      refine AO ⟨_, fun _ h => h, trivial, ?_⟩
      refine Ah ?_
      have kf : Keep (w2.heap.size :: g0 :: (Value.slice va l.length vc).ownBlock.toList) wB w9 := ((a7.keep.mono fun x hx => by simp [hx]).trans p8.keep fun x hx _ => by simp at hx; simp [hx]).trans p9.keep fun x hx _ => by simp at hx; simp [hx]
      obtain ⟨g0', cap7', M7', e7, _, bM', _, hset'⟩ := B6 (Ag a7.own p8.keep fun g hg => by cases hg; simpa using hcg.symm) hLB.own.1 hcs'
      cases e7
      obtain rfl : M7' = M7 := by
       have h1 := bM.keep p8.keep (by simpa using hcg.symm)
       unfold Blk at h1 bM'
       rw [h1] at bM'
       have := Option.some.inj bM'
       simpa using (Obj.cells.inj this).1.symm
      obtain ⟨hfin, hown⟩ := hfit w9 kf (p8.blk.keep p9.keep (by simpa using hcg)) (hset' w9 (by simpa using p9))
      repeat refine nx rfl ?_
      exact ⟨rfl, ⟨_, (k3.trans eqB).any.trans kf (fun _ h _ => h), fun y hy => by simpa using hown y hy⟩, ⟨_, _, hfin⟩, (h23.ext eqB).trans kf (fun y hy hlt => by rcases hown y hy with e | e; simp [e]; omega), fun z hz => ⟨(h3 z hz).1, Nat.lt_of_lt_of_le (hzB z hz) (Nat.le_trans zs3 kf.size)⟩⟩
    ·refine Ab (out := zero5) rfl (by omega) (by rw [CV]; rfl) (fun wB nB => ?_)
     have kB := nB.keep
     have oz := nB.own (n := 1) (size := 5) rfl (by unfold maxLen; omega) (Nat.le_refl _)
     have hLB := hLC.keep kB (Z' := Z) (by simp) (fun z hz => .inl hz)
     have hxB := hxC.keep kB (fun _ _ => by simp)
     have eqB := eqC.trans kB
     have zkB := kB.size
     refine AO ⟨_, fun _ h => h, trivial, ?_⟩
     replace fC := fC.ext kB
     refine D_E rfl ?_
     refine AF rfl (hLB.blk.cell (o := 0) rfl) ?_
     refine AO ⟨_, fun _ h => h, trivial, ?_⟩
     ((apply D_R rfl rfl; (intro W hW; refine AZ rfl ?_; exact AO ⟨rfl, rfl, rfl⟩)))
     have hzB : ∀ z ∈ Z, z < W3.heap.size := fun z hz => Nat.lt_of_lt_of_le (h3 z hz).2 k3.size
     have zs1 := eqd.size
     have zs2 := h23.size
     have zs3 := eqB.size
     have fE : FAt (fun b => (w4.heap.size ≤ b ∧ b ∉ Z) ∧ (Value.slice va l.length vc).ownBlock ≠ some b) wB (.agg cs'.toArray) x := fC.mono fun y hy => ⟨⟨by omega, fun hz => by have := hzB y hz; omega⟩, fun e => by have := (Aw hLd.own e).2; omega⟩
     refine D_E rfl ?_
     refine BD (ok := As) (v := .slice va l.length vc) rfl rfl hLB.own (Az oz fun _ _ => trivial) (by omega) rfl rfl (Ap rfl) (by omega) (by omega) (by omega) (fun v7 w7 a7 => ?_)
     refine AO ⟨_, fun _ h => h, trivial, ?_⟩
     obtain ⟨g0, cap7, M7, rfl, hg0B, bM, hlM, hset⟩ := B6 a7.own hLB.own.1 hcs'
     have hg0 : (Value.slice va l.length vc).ownBlock = some g0 ∨ g0 = wB.heap.size := a7.blk.imp (fun e => e.symm) (fun e => Option.some.inj e)
     have hcg : w2.heap.size ≠ g0 := by have := hLB.cB; omega
     have b7 := hLB.blk.keep a7.keep (fun hx => by have := (Aw hLB.own (Option.mem_toList.1 hx)).1; have := hLB.cB; omega)
     have hfit := fun V4 : World => hLB.push (W4 := V4) (g0 := g0) (v7 := .slice (some ⟨g0, 0, none⟩) (l.length + 1) cap7) (cs := cs') (fun z hz => Nat.lt_of_lt_of_le (hzB z hz) zs3) fE hcs' rfl hg0 (by omega)
     refine D_R rfl rfl (fun V hV => by refine Au (k := l.length) rfl rfl rfl (by omega) ?_; exact AO ⟨rfl, rfl, rfl⟩) ?_
     refine D_A rfl ?_ (D_E rfl ?_)
     ·refine AU (o := 0 + l.length * 5) rfl rfl hcs' hone' bM (by omega) (fun w8 p8 => ?_)
      refine AO ⟨_, fun _ h => h, trivial, ?_⟩
      refine D_E rfl ?_
      refine Aa rfl rfl rfl (b7.keep p8.keep (by simpa using hcg)) (by simp) (fun w9 p9 => ?_)
      refine AO ⟨_, fun _ h => h, trivial, ?_⟩
      refine Ah ?_
      have kf : Keep (w2.heap.size :: g0 :: (Value.slice va l.length vc).ownBlock.toList) wB w9 := ((a7.keep.mono fun x hx => by simp [hx]).trans p8.keep fun x hx _ => by simp at hx; simp [hx]).trans p9.keep fun x hx _ => by simp at hx; simp [hx]
      obtain ⟨hfin, hown⟩ := hfit w9 kf p9.blk (Ag (hset w8 (by simpa using p8)) p9.keep fun g hg => by cases hg; simpa using hcg.symm)
      repeat refine nx rfl ?_
      exact ⟨rfl, ⟨_, (k3.trans eqB).any.trans kf (fun _ h _ => h), fun y hy => by simpa using hown y hy⟩, ⟨_, _, hfin⟩, (h23.ext eqB).trans kf (fun y hy hlt => by rcases hown y hy with e | e; simp [e]; omega), fun z hz => ⟨(h3 z hz).1, Nat.lt_of_lt_of_le (hzB z hz) (Nat.le_trans zs3 kf.size)⟩⟩
     ·refine Aa rfl rfl rfl b7 (by simp) (fun w8 p8 => ?_)
      refine AO ⟨_, fun _ h => h, trivial, ?_⟩
      refine D_E rfl ?_
      refine AU (o := 0 + l.length * 5) rfl rfl hcs' hone' (bM.keep p8.keep (by simpa using hcg.symm)) (by omega) (fun w9 p9 => ?_)
      refine AO ⟨_, fun _ h => h, trivial, ?_⟩
      refine Ah ?_
      have kf : Keep (w2.heap.size :: g0 :: (Value.slice va l.length vc).ownBlock.toList) wB w9 := ((a7.keep.mono fun x hx => by simp [hx]).trans p8.keep fun x hx _ => by simp at hx; simp [hx]).trans p9.keep fun x hx _ => by simp at hx; simp [hx]
      obtain ⟨g0', cap7', M7', e7, _, bM', _, hset'⟩ := B6 (Ag a7.own p8.keep fun g hg => by cases hg; simpa using hcg.symm) hLB.own.1 hcs'
      cases e7
      obtain rfl : M7' = M7 := by
       have h1 := bM.keep p8.keep (by simpa using hcg.symm)
       unfold Blk at h1 bM'
       rw [h1] at bM'
       have := Option.some.inj bM'
       simpa using (Obj.cells.inj this).1.symm
      obtain ⟨hfin, hown⟩ := hfit w9 kf (p8.blk.keep p9.keep (by simpa using hcg)) (hset' w9 (by simpa using p9))
      repeat refine nx rfl ?_
      exact ⟨rfl, ⟨_, (k3.trans eqB).any.trans kf (fun _ h _ => h), fun y hy => by simpa using hown y hy⟩, ⟨_, _, hfin⟩, (h23.ext eqB).trans kf (fun y hy hlt => by rcases hown y hy with e | e; simp [e]; omega), fun z hz => ⟨(h3 z hz).1, Nat.lt_of_lt_of_le (hzB z hz) (Nat.le_trans zs3 kf.size)⟩⟩
   ·refine Ab (out := zero5) rfl (by omega) (by rw [CV]; rfl) (fun wB nB => ?_)
    have kB := nB.keep
    have oz := nB.own (n := 1) (size := 5) rfl (by unfold maxLen; omega) (Nat.le_refl _)
    have hLB := hLd.keep kB (Z' := Z) (by simp) (fun z hz => .inl hz)
    have hxB := hxd.keep kB (fun _ _ => by simp)
    have eqB := eqd.trans kB
    have zkB := kB.size
    refine AO ⟨_, fun _ h => h, trivial, ?_⟩
    have zsB := eqB.size
    refine D_A rfl ?_ (D_E rfl ?_)
    ·refine AF rfl (hLB.blk.cell (o := 0) rfl) ?_
     refine AO ⟨_, fun _ h => h, trivial, ?_⟩
     ((apply D_R rfl rfl; (intro W hW; refine AZ rfl ?_; exact AO ⟨rfl, rfl, rfl⟩)))
     refine D_E rfl ?_
     refine AQ (changed_ok (valR_nodes wB) (dpF x) wB b' o' x (Nat.le_refl _) (by omega) (Ext.refl _) ((hxB.lt).mono fun y hy => hy.2) trivial) rfl ?_
     rintro u wC ⟨kC, fC⟩
     rw [chF_val] at fC
     obtain ⟨cs', rfl, hcs', hone'⟩ := fC.cells
     have hLC := hLB.keep kC (Z' := Z) (by simp) (fun z hz => .inl hz)
     have hxC := hxB.keep kC (fun _ _ => by simp)
     have eqC := eqB.trans kC
     have zkC := kC.size
     refine AO ⟨_, fun _ h => h, trivial, ?_⟩
     replace oz := A4 oz kC
     have hzC : ∀ z ∈ Z, z < W3.heap.size := fun z hz => Nat.lt_of_lt_of_le (h3 z hz).2 k3.size
     have zs1 := eqd.size
     have zs2 := h23.size
     have zs3 := eqC.size
     have fE : FAt (fun b => (w4.heap.size ≤ b ∧ b ∉ Z) ∧ (Value.slice va l.length vc).ownBlock ≠ some b) wC (.agg cs'.toArray) x := fC.mono fun y hy => ⟨⟨by omega, fun hz => by have := hzC y hz; omega⟩, fun e => by have := (Aw hLd.own e).2; omega⟩
     refine D_E rfl ?_
     refine BD (ok := As) (v := .slice va l.length vc) rfl rfl hLC.own (Az oz fun _ _ => trivial) (by omega) rfl rfl (Ap rfl) (by omega) (by omega) (by omega) (fun v7 w7 a7 => ?_)
     refine AO ⟨_, fun _ h => h, trivial, ?_⟩
     obtain ⟨g0, cap7, M7, rfl, hg0B, bM, hlM, hset⟩ := B6 a7.own hLC.own.1 hcs'
     have hg0 : (Value.slice va l.length vc).ownBlock = some g0 ∨ g0 = wC.heap.size := a7.blk.imp (fun e => e.symm) (fun e => Option.some.inj e)
     have hcg : w2.heap.size ≠ g0 := by have := hLC.cB; omega
     have b7 := hLC.blk.keep a7.keep (fun hx => by have := (Aw hLC.own (Option.mem_toList.1 hx)).1; have := hLC.cB; omega)
     have hfit := fun V4 : World => hLC.push (W4 := V4) (g0 := g0) (v7 := .slice (some ⟨g0, 0, none⟩) (l.length + 1) cap7) (cs := cs') (fun z hz => Nat.lt_of_lt_of_le (hzC z hz) zs3) fE hcs' rfl hg0 (by omega)
     refine D_R rfl rfl (fun V hV => by refine Au (k := l.length) rfl rfl rfl (by omega) ?_; exact AO ⟨rfl, rfl, rfl⟩) ?_
     refine D_A rfl ?_ (D_E rfl ?_)
     ·refine AU (o := 0 + l.length * 5) rfl rfl hcs' hone' bM (by omega) (fun w8 p8 => ?_)
      refine AO ⟨_, fun _ h => h, trivial, ?_⟩
      refine D_E rfl ?_
      refine Aa rfl rfl rfl (b7.keep p8.keep (by simpa using hcg)) (by simp) (fun w9 p9 => ?_)
      refine AO ⟨_, fun _ h => h, trivial, ?_⟩
      refine Ah ?_
      have kf : Keep (w2.heap.size :: g0 :: (Value.slice va l.length vc).ownBlock.toList) wC w9 := ((a7.keep.mono fun x hx => by simp [hx]).trans p8.keep fun x hx _ => by simp at hx; simp [hx]).trans p9.keep fun x hx _ => by simp at hx; simp [hx]
      obtain ⟨hfin, hown⟩ := hfit w9 kf p9.blk (Ag (hset w8 (by simpa using p8)) p9.keep fun g hg => by cases hg; simpa using hcg.symm)
      repeat refine nx rfl ?_
      exact ⟨rfl, ⟨_, (k3.trans eqC).any.trans kf (fun _ h _ => h), fun y hy => by simpa using hown y hy⟩, ⟨_, _, hfin⟩, (h23.ext eqC).trans kf (fun y hy hlt => by rcases hown y hy with e | e; simp [e]; omega), fun z hz => ⟨(h3 z hz).1, Nat.lt_of_lt_of_le (hzC z hz) (Nat.le_trans zs3 kf.size)⟩⟩
     ·refine Aa rfl rfl rfl b7 (by simp) (fun w8 p8 => ?_)
      refine AO ⟨_, fun _ h => h, trivial, ?_⟩
      refine D_E rfl ?_
      refine AU (o := 0 + l.length * 5) rfl rfl hcs' hone' (bM.keep p8.keep (by simpa using hcg.symm)) (by omega) (fun w9 p9 => ?_)
      refine AO ⟨_, fun _ h => h, trivial, ?_⟩
      refine Ah ?_
      have kf : Keep (w2.heap.size :: g0 :: (Value.slice va l.length vc).ownBlock.toList) wC w9 := ((a7.keep.mono fun x hx => by simp [hx]).trans p8.keep fun x hx _ => by simp at hx; simp [hx]).trans p9.keep fun x hx _ => by simp at hx; simp [hx]
      obtain ⟨g0', cap7', M7', e7, _, bM', _, hset'⟩ := B6 (Ag a7.own p8.keep fun g hg => by cases hg; simpa using hcg.symm) hLC.own.1 hcs'
      cases e7
      obtain rfl : M7' = M7 := by
       have h1 := bM.keep p8.keep (by simpa using hcg.symm)
       unfold Blk at h1 bM'
       rw [h1] at bM'
       have := Option.some.inj bM'
       simpa using (Obj.cells.inj this).1.symm
      obtain ⟨hfin, hown⟩ := hfit w9 kf (p8.blk.keep p9.keep (by simpa using hcg)) (hset' w9 (by simpa using p9))
      repeat refine nx rfl ?_
      exact ⟨rfl, ⟨_, (k3.trans eqC).any.trans kf (fun _ h _ => h), fun y hy => by simpa using hown y hy⟩, ⟨_, _, hfin⟩, (h23.ext eqC).trans kf (fun y hy hlt => by rcases hown y hy with e | e; simp [e]; omega), fun z hz => ⟨(h3 z hz).1, Nat.lt_of_lt_of_le (hzC z hz) (Nat.le_trans zs3 kf.size)⟩⟩
    ·refine AQ (changed_ok (valR_nodes wB) (dpF x) wB b' o' x (Nat.le_refl _) (by omega) (Ext.refl _) ((hxB.lt).mono fun y hy => hy.2) trivial) rfl ?_
     rintro u wC ⟨kC, fC⟩
     rw [chF_val] at fC
     obtain ⟨cs', rfl, hcs', hone'⟩ := fC.cells
     have hLC := hLB.keep kC (Z' := Z) (by simp) (fun z hz => .inl hz)
     have hxC := hxB.keep kC (fun _ _ => by simp)
     have eqC := eqB.trans kC
     have zkC := kC.size
     refine AO ⟨_, fun _ h => h, trivial, ?_⟩
     replace oz := A4 oz kC
     refine D_E rfl ?_
     refine AF rfl (hLC.blk.cell (o := 0) rfl) ?_
     refine AO ⟨_, fun _ h => h, trivial, ?_⟩
     ((apply D_R rfl rfl; (intro W hW; refine AZ rfl ?_; exact AO ⟨rfl, rfl, rfl⟩)))
     have hzC : ∀ z ∈ Z, z < W3.heap.size := fun z hz => Nat.lt_of_lt_of_le (h3 z hz).2 k3.size
     have zs1 := eqd.size
     have zs2 := h23.size
     have zs3 := eqC.size
     have fE : FAt (fun b => (w4.heap.size ≤ b ∧ b ∉ Z) ∧ (Value.slice va l.length vc).ownBlock ≠ some b) wC (.agg cs'.toArray) x := fC.mono fun y hy => ⟨⟨by omega, fun hz => by have := hzC y hz; omega⟩, fun e => by have := (Aw hLd.own e).2; omega⟩
     refine D_E rfl ?_
     refine BD (ok := As) (v := .slice va l.length vc) rfl rfl hLC.own (Az oz fun _ _ => trivial) (by omega) rfl rfl (Ap rfl) (by omega) (by omega) (by omega) (fun v7 w7 a7 => ?_)
     refine AO ⟨_, fun _ h => h, trivial, ?_⟩
     obtain ⟨g0, cap7, M7, rfl, hg0B, bM, hlM, hset⟩ := B6 a7.own hLC.own.1 hcs'
     have hg0 : (Value.slice va l.length vc).ownBlock = some g0 ∨ g0 = wC.heap.size := a7.blk.imp (fun e => e.symm) (fun e => Option.some.inj e)
     have hcg : w2.heap.size ≠ g0 := by have := hLC.cB; omega
     have b7 := hLC.blk.keep a7.keep (fun hx => by have := (Aw hLC.own (Option.mem_toList.1 hx)).1; have := hLC.cB; omega)
     have hfit := fun V4 : World => hLC.push (W4 := V4) (g0 := g0) (v7 := .slice (some ⟨g0, 0, none⟩) (l.length + 1) cap7) (cs := cs') (fun z hz => Nat.lt_of_lt_of_le (hzC z hz) zs3) fE hcs' rfl hg0 (by omega)
     refine D_R rfl rfl (fun V hV => by refine Au (k := l.length) rfl rfl rfl (by omega) ?_; exact AO ⟨rfl, rfl, rfl⟩) ?_
     refine D_A rfl ?_ (D_E rfl ?_)
     ·refine AU (o := 0 + l.length * 5) rfl rfl hcs' hone' bM (by omega) (fun w8 p8 => ?_)
      refine AO ⟨_, fun _ h => h, trivial, ?_⟩
      refine D_E rfl ?_
      refine Aa rfl rfl rfl (b7.keep p8.keep (by simpa using hcg)) (by simp) (fun w9 p9 => ?_)
      refine AO ⟨_, fun _ h => h, trivial, ?_⟩
      refine Ah ?_
      have kf : Keep (w2.heap.size :: g0 :: (Value.slice va l.length vc).ownBlock.toList) wC w9 := ((a7.keep.mono fun x hx => by simp [hx]).trans p8.keep fun x hx _ => by simp at hx; simp [hx]).trans p9.keep fun x hx _ => by simp at hx; simp [hx]
      obtain ⟨hfin, hown⟩ := hfit w9 kf p9.blk (Ag (hset w8 (by simpa using p8)) p9.keep fun g hg => by cases hg; simpa using hcg.symm)
      repeat refine nx rfl ?_
      exact ⟨rfl, ⟨_, (k3.trans eqC).any.trans kf (fun _ h _ => h), fun y hy => by simpa using hown y hy⟩, ⟨_, _, hfin⟩, (h23.ext eqC).trans kf (fun y hy hlt => by rcases hown y hy with e | e; simp [e]; omega), fun z hz => ⟨(h3 z hz).1, Nat.lt_of_lt_of_le (hzC z hz) (Nat.le_trans zs3 kf.size)⟩⟩
     ·refine Aa rfl rfl rfl b7 (by simp) (fun w8 p8 => ?_)
      refine AO ⟨_, fun _ h => h, trivial, ?_⟩
      refine D_E rfl ?_
      refine AU (o := 0 + l.length * 5) rfl rfl hcs' hone' (bM.keep p8.keep (by simpa using hcg.symm)) (by omega) (fun w9 p9 => ?_)
      refine AO ⟨_, fun _ h => h, trivial, ?_⟩
      refine Ah ?_
      have kf : Keep (w2.heap.size :: g0 :: (Value.slice va l.length vc).ownBlock.toList) wC w9 := ((a7.keep.mono fun x hx => by simp [hx]).trans p8.keep fun x hx _ => by simp at hx; simp [hx]).trans p9.keep fun x hx _ => by simp at hx; simp [hx]
      obtain ⟨g0', cap7', M7', e7, _, bM', _, hset'⟩ := B6 (Ag a7.own p8.keep fun g hg => by cases hg; simpa using hcg.symm) hLC.own.1 hcs'
      cases e7
      obtain rfl : M7' = M7 := by
       have h1 := bM.keep p8.keep (by simpa using hcg.symm)
       unfold Blk at h1 bM'
       rw [h1] at bM'
       have := Option.some.inj bM'
       simpa using (Obj.cells.inj this).1.symm
      obtain ⟨hfin, hown⟩ := hfit w9 kf (p8.blk.keep p9.keep (by simpa using hcg)) (hset' w9 (by simpa using p9))
      repeat refine nx rfl ?_
      exact ⟨rfl, ⟨_, (k3.trans eqC).any.trans kf (fun _ h _ => h), fun y hy => by simpa using hown y hy⟩, ⟨_, _, hfin⟩, (h23.ext eqC).trans kf (fun y hy hlt => by rcases hown y hy with e | e; simp [e]; omega), fun z hz => ⟨(h3 z hz).1, Nat.lt_of_lt_of_le (hzC z hz) (Nat.le_trans zs3 kf.size)⟩⟩
  ·obtain ⟨i, hi⟩ := findI_pos (l := L.foldl addN []) (x := x) (by omega)
   have hadd : (L ++ [x]).foldl addN [] = L.foldl addN [] := by rw [List.foldl_append]; simp [addN, hi]
   rw [hadd]
   exact ⟨rfl, KZ.of k3, ⟨_, _, h13⟩, h23, fun z hz => ⟨(h3 z hz).1, Nat.lt_of_lt_of_le (h3 z hz).2 k3.size⟩⟩
 ·obtain ⟨⟨v, Ls, h1⟩, h2, h3⟩ := iW
  have bW := h1.blk
  repeat refine nx rfl ?_
  (refine AA (AF rfl (Blk.cell (by assumption) (by rfl)) ?_) <;> refine AC (Be ?_))
  repeat refine nx rfl ?_
  refine Bl dW fun w9 k9 s9 => ?_
  have h9 := (h1.keep k9 (Z' := Z) (fun y hy => by simp at hy; subst hy; exact hmZ) (fun z hz => .inl hz)).sl
  have e9 : Ext w w9 := (k4.keep h2 (by simp; omega)).keep k9 (by simp; omega)
  exact finD_ret1 rfl ⟨h9.mono fun b hb => by omega, e9⟩
end
end Go.Proofs.YtkhhjdjmhbdjfaaGreatDoor
namespace Go.Proofs.YtkhhjdjmhbdjfaaGreatDoor
open Go.RowKit
set_option linter.unusedVariables false
variable {mk : Prop} [MK mk]
section
variable {P : Program} {all : Array Oper} {Z : Fr → DS → List PanicEntry → World → Prop} {K : Fr → DS → World → Prop} {rest : List Oper} {f : Fr} {ds : DS} {w : World}
 {d : Nat} {ty : TypeId} {pos : String} {af : Array Edge}
theorem W_ptrNe {T yt e : TypeId} {x y : Operand} {a b : Addr} {ca cb : Array Value} {ta tb : TypeId} {fa fb : Nat × Nat} [hT : PtrT P T e] (hx : ev f x = .pointer (some a)) (hy : ev f y = .pointer (some b)) (ha : w.heap[a.block]? = some (.cells ca ta fa)) (hb : w.heap[b.block]? = some (.cells cb tb fb)) (hu : fa = (0, 0) ∨ fb = (0, 0)) (h0 : 0 < ca.size) (h1 : 0 < cb.size)
  (h : AX P all Z K rest (upd f d (.bool (!decide (a = b)))) ds w) : AX P all Z K (⟨some d, .binOp .neq T x y yt, ty, pos, af, none⟩ :: rest) f ds w := by
 refine BB rfl ?_ h
 obtain ⟨j, hj, hs⟩ := hT.info
 have hd : ∀ n : Nat, (Op.equalIn (n + 1) T (.pointer (some a)) (.pointer (some b))).run P w = .ok (decide (a = b)) w := fun n => by
  by_cases hab : a = b
  ·subst hab
   simp [Op.equalIn, run_underlying hT.und, sizeOf, typeInfo, hj, run_sameAddr_same]
  ·simp [Op.equalIn, run_underlying hT.und, sizeOf, typeInfo, hj, hs, run_sameAddr_unm w ha hb hu h0 h1 hab, hab]
 have hr : (binOp .neq T (.pointer (some a)) (.pointer (some b))).run P w = .ok (.bool (!decide (a = b))) w := by
  simp only [binOp]
  simp [Op.equal, Op.maxDepth, hd 9999]
 simp [execOp, hx, hy, eqGuard, hr]
end
section
attribute [local semireducible] WC AX Bx BT Bu finQ finD Bw
variable {P : Program} {n : Cf} {Q : CX} {f : Fr} {ds : DS} {w : World}
theorem C_loopD {α : Type} (L : α → List (Nat × Value)) (I : α → DS → World → Prop) (μ : α → Nat) (x0 : α) {c : Code} (h0 : agr (L x0) f) (hI : I x0 ds w)
  (hr : ∀ x ds' w f', I x ds' w → WC P n c (Bx (fun f'' ds'' w'' => ∃ y, (agr (L y) f'' ∧ I y ds'' w'') ∧ μ y < μ x) Q) (ov (L x) f') ds' w) : WC P n (.loop c) Q f ds w := by
 refine ⟨α, fun x f ds' w => agr (L x) f ∧ I x ds' w, μ, x0, ⟨h0, hI⟩, ?_⟩
 rintro x f ds' w ⟨h1, h2⟩
 have h := hr x ds' w f h2
 rw [ov_of_agr h1] at h
 exact h
end
def markD (b : Nat) : Deferred := { target := .collected b, args := #[] }
theorem finD_marks {P : Program} {fn : Func} {R : Value → World → Prop} {Y : List PanicEntry → World → Prop} {f : Fr} : ∀ (bs : List Nat) (w : World), bs.Nodup → (∀ b ∈ bs, w.heap[b]? = some (.deferred (some []))) → (∀ w', Keep bs w w' → w'.heap.size = w.heap.size → finD P fn R Y .ret f [] w') → finD P fn R Y .ret f (bs.map markD) w
 | [], w, _, _, h => h w (Keep.refl _ _) rfl
 | b :: bs, w, hn, hb, h => by
  have hn' := List.nodup_cons.1 hn
  refine Bl (hb b (by simp)) fun w1 k1 s1 => finD_marks bs w1 hn'.2 (fun c hc => ?_) fun w2 k2 s2 => h w2 ?_ (by omega)
  ·have hcb := hb c (by simp [hc])
   exact (k1.block c (Array.getElem?_eq_some_iff.1 hcb).1 (by simp; exact fun e => hn'.1 (e ▸ hc))).trans hcb
  ·exact (k1.mono fun x hx => by simp at hx; simp [hx]).trans k2 fun x hx _ => by simp [hx]
end Go.Proofs.YtkhhjdjmhbdjfaaGreatDoor
namespace Go.Proofs.YtkhhjdjmhbdjfaaGreatDoor
open Go.RowKit
set_option linter.unusedVariables false
variable {mk : Prop} [MK mk]
def listOk (l : List Fml) : Prop := l.length ≤ 8 ∧ ∀ (k : Nat) (x : Fml), l[k]? = some x → Cm x.op = true ∧ Ci x = true ∧ pastG x = true ∧ Cz (l.take k) x = none ∧ ∀ g ∈ pnF x, g ≠ x → g ∈ l.take k
theorem SlAt.cap {ok : Nat → Prop} {w : World} {a : Option Addr} {n c : Nat} {l : List Fml} (h : SlAt fmlR ok w (.slice a n c) l) : l.length ≤ c := by
 obtain ⟨_, _, _, e, hS, _⟩ := h
 cases e
 obtain ⟨_, _, hv, g1, g2, _⟩ := hS
 cases hv; omega
theorem SlAt.take {ok : Nat → Prop} {w : World} {a : Option Addr} {n c k : Nat} {l : List Fml} (h : SlAt fmlR ok w (.slice a n c) l) (hk : k ≤ l.length) : SlAt fmlR ok w (.slice a k c) (l.take k) := by
 obtain ⟨_, _, L, e, hS, hF⟩ := h
 cases e
 have hkl : (l.take k).length = k := by simp; omega
 refine ⟨a, c, L.take k, by rw [hkl], ?_, by rw [List.length_take, List.length_take, hF.1], fun i d x hd hx => ?_⟩
 ·rw [hkl]
  obtain ⟨_, _, hv, g1, g2, g3, g4⟩ := hS
  cases hv
  refine ⟨a, c, rfl, by omega, g2, fun h0 => by have := g3 h0; omega, ?_⟩
  rcases g4 with g4 | ⟨b, o, ha, hb, hc⟩
  ·exact .inl (by omega)
  ·refine .inr ⟨b, o, ha, hb, fun i u hu => hc i u ?_⟩
   have : L.flatten = (L.take k).flatten ++ (L.drop k).flatten := by rw [← List.flatten_append, List.take_append_drop]
   rw [this, List.getElem?_append_left (List.getElem?_eq_some_iff.1 hu).1]
   exact hu
 ·rw [List.getElem?_take] at hd hx
  split at hd <;> simp_all
  exact hF.2 i d x hd hx
theorem isList_ok (w : World) (v : Value) (l : List Fml) (okl : Nat → Prop) (hl : SlAt fmlR okl w v l) (hu : ∀ b, okl b → Unm w b) (hG : GF w) (hK : KY w) (hN : 3 ≤ w.heap.size) (hok : listOk l) : Fn Tryz.prog 28 [v] w fun u w' => u = .bool true ∧ Ext w w' := by
 obtain ⟨a, c, rfl, hlm⟩ := hl.len
 have hcap := hl.cap
 have hll := hl.lt (show (0 : Nat) < 5 by omega)
 obtain ⟨h8, hok⟩ := hok
 refine CK Tryz.func28 rfl Tryz.ntmps28 (Nat.le_of_ble_eq_true rfl) (by kernel_rfl) ?_
 repeat refine nx rfl ?_
 (refine AA ?_; refine A5 (L := [.slice a l.length c]) rfl (fun w1 n1 => ?_))
 refine Ar (fun w2 n2 => ?_)
 repeat refine nx rfl ?_
 have z1 := n1.size
 have z2 := n2.size
 have b1 := n1.blk.keep n2.keep (by simp)
 have b2 : Blk w2 w1.heap.size 4 [.bool false] := n2.blk
 have k2 := n1.keep.trans n2.keep
 (refine AA (AF rfl (Blk.cell (by assumption) (by rfl)) ?_) <;> refine AZ rfl (B9 rfl rfl (by omega) ?_))
 repeat first | refine nx rfl ?_ | refine nf rfl ?_
 (refine AA (AF rfl (Blk.cell (by assumption) (by rfl)) ?_) <;> refine AZ rfl (AG rfl ?_))
 repeat refine nx rfl ?_
 refine C_loopD (α := Nat) (fun k => [(1, pt w.heap.size), (2, pt w1.heap.size), (10, .int .i64 (l.length : Int)), (11, .int .i64 (k : Int))]) (fun k ds' W => k ≤ l.length ∧ Ext w2 W ∧ ∃ bs : List Nat, ds' = bs.map markD ∧ bs.Nodup ∧ ∀ b ∈ bs, w2.heap.size ≤ b ∧ W.heap[b]? = some (.deferred (some []))) (fun k => l.length - k) 0 ⟨rfl, rfl, rfl, rfl, trivial⟩ ⟨by omega, Ext.refl _, [], rfl, by simp, by simp⟩ ?_
 rintro k ds' W fr ⟨hk, kW, bs, rfl, hnd, hbs⟩
 have b1W := b1.keep kW (by simp)
 repeat refine nx rfl ?_
 by_cases hlt : k < l.length
 ·refine AA (At rfl rfl (by omega) ?_)
  repeat refine nx rfl ?_
  refine AA (AG rfl ?_)
  refine Ar (fun w5 n5 => ?_)
  refine Aa (v := .int .i64 (k : Int)) rfl rfl rfl n5.blk (by simp) (fun w6 p6 => ?_)
  repeat refine nx rfl ?_
  obtain ⟨x, hx⟩ : ∃ x, l[k]? = some x := ⟨_, List.getElem?_eq_getElem hlt⟩
  obtain ⟨r1, r2, r3, r4, r5⟩ := hok k x hx
  have k6 : Ext W w6 := n5.keep.keep p6.keep (by simp)
  have b3 : Blk w6 W.heap.size 3 [.int .i64 (k : Int)] := p6.blk
  have b16 := b1W.keep k6 (by simp)
  have z5 := n5.size
  have z6 := p6.size
  obtain ⟨b', o', rfl, _⟩ := hl.pf hx
  (refine AA (AF rfl (Blk.cell (by assumption) (by rfl)) ?_) <;> refine AF rfl (Blk.cell (by assumption) (by rfl)) ?_ <;> refine Au rfl rfl rfl (by omega) ?_)
  refine Ar (fun w7 n7 => ?_)
  refine Aa (v := .pointer (some ⟨b', o' + k * 5, none⟩)) rfl rfl rfl n7.blk (by simp) (fun w8 p8 => ?_)
  repeat refine nx rfl ?_
  have k8 : Ext w6 w8 := n7.keep.keep p8.keep (by simp)
  have b4 : Blk w8 w6.heap.size 50 [.pointer (some ⟨b', o' + k * 5, none⟩)] := p8.blk
  have b38 := b3.keep k8 (by simp)
  have b18 := b16.keep k8 (by simp)
  have e8 : Ext w w8 := ((k2.trans kW).trans k6).trans k8
  have z7 := n7.size
  have z8 := p8.size
  have hll8 := hll.ext e8
  obtain ⟨_, _, e', hpx⟩ := hll8.pf hx
  cases e'
  obtain ⟨hbx, d, hd, hcx, hfx⟩ := id hpx
  obtain ⟨x0, x1, x2, x3, x4, rfl⟩ := A7 hd
  have hop := hpx.opc
  refine Ad (.read 0 (.read 1 (.read 2 (.read 3 (.alt 4 (.read 5 (.read 6 (.read 7 (.alt 8 (.read 9 (.read 10 (.read 11 (.read 12 (.read 13 (.read 14 (.alt 15 (.read 16 (.read 17 (.read 18 (.read 19 (.read 20 (.read 21 (.read 22 (.alt 23 (.read 24 (.read 25 .done)) .stop)))))))) .stop))))))) .stop)))) .stop))))) Ax (by kernel_rfl) (fun wd kd ed => ⟨Ext wd, ?_, ?_⟩)
  ·exact Ext.refl _
  have q1 : ∀ V, Ext wd V → V.cell? ⟨w6.heap.size, 0, none⟩ = some (.pointer (some ⟨b', o' + k * 5, none⟩)) := fun V e => (b4.keep (kd.trans e) (by simp)).cell rfl
  have q2 : ∀ V, Ext wd V → V.cell? ⟨b', o' + k * 5 + 0, none⟩ = some (.int .i64 x.op) := fun V e => (kd.trans e).cell hop (by simp)
  have q3 : ∀ V, Ext wd V → V.cell? ⟨w.heap.size, 0, none⟩ = some (.slice (some ⟨b', o', none⟩) l.length c) := fun V e => (b18.keep (kd.trans e) (by simp)).cell rfl
  have q4 : ∀ V, Ext wd V → V.cell? ⟨W.heap.size, 0, none⟩ = some (.int .i64 (k : Int)) := fun V e => (b38.keep (kd.trans e) (by simp)).cell rfl
  have q5 : ∀ V, Ext wd V → Cells V b' (o' + k * 5) [x0, x1, x2, x3, x4] := fun V e => hcx.keep (kd.trans e) (by simp)
  have ed' := e8.trans kd
  refine D_R rfl rfl (fun W hW => AF rfl (q1 W hW) Z3) (D_R rfl rfl (fun W hW => AH rfl Z3) (D_R rfl rfl (fun W hW => AD rfl Z3) (D_R rfl rfl (fun W hW => AF rfl (q2 W hW) Z3) ?_)))
  refine D_E rfl ?_
  refine AQ (remembers_ok wd x.op) rfl ?_
  rintro _ wd ⟨rfl, rfl⟩
  rw [r1]
  refine AO ⟨Ext wd, fun _ e => e, Ext.refl _, ?_⟩
  refine D_R rfl rfl (fun W hW => Ak rfl Z3) (D_R rfl rfl (fun W hW => AB rfl Z3) (D_R rfl rfl (fun W hW => AE rfl (AF rfl (q1 W hW) Z3)) ?_))
  refine D_E rfl ?_
  refine AE rfl (AQ (ploose_ok wd b' (o' + k * 5) x ((hpx.keep kd (fun _ _ => by simp)).mono fun _ _ => trivial) (hG.ext ed') (hK.keep ed' (by simp)) (Nat.le_trans hN ed'.size) r2) rfl ?_)
  rintro _ w9 ⟨rfl, k9⟩
  refine AO ⟨Ext wd, fun _ e => e, k9, ?_⟩
  (refine D_R rfl rfl (fun W hW => AE rfl (Ak rfl Z3)) (D_R rfl rfl (fun W hW => AJ rfl (AB rfl Z3)) (D_R rfl rfl (fun W hW => AB rfl Z3) (D_R rfl rfl (fun W hW => AE rfl (AF rfl (q1 W hW) Z3)) (D_R rfl rfl (fun W hW => AE rfl (AH rfl Z3)) ?_)))) <;> (apply D_R rfl rfl; (intro W hW; (refine AE rfl ?_; refine Ao rfl (by rfl) (q5 W hW) ?_); exact Z3)))
  refine D_E rfl ?_
  have hdx : dpF x ≤ 20 := by simp [Ci] at r2; exact r2.1.2
  refine AE rfl (AQ (fpast_ok w9 _ x ((hfx.ext (kd.trans k9)).mono fun _ _ => trivial) (hG.ext (ed'.trans k9)) (Nat.le_trans hN (ed'.trans k9).size) (by omega)) rfl ?_)
  rintro _ w10 ⟨rfl, k10⟩
  rw [r3]
  refine AO ⟨Ext wd, fun _ e => e, k9.trans k10, ?_⟩
  refine D_R rfl rfl (fun W hW => AE rfl (Ak rfl Z3)) (D_R rfl rfl (fun W hW => AJ rfl (AB rfl Z3)) (D_R rfl rfl (fun W hW => AB rfl Z3) (D_R rfl rfl (fun W hW => AE rfl (AF rfl (q3 W hW) Z3)) (D_R rfl rfl (fun W hW => AE rfl (AF rfl (q4 W hW) Z3)) (D_R rfl rfl (fun W hW => AE rfl (W_slice_h rfl rfl (by omega) (by omega) Z3)) (D_R rfl rfl (fun W hW => AE rfl (AF rfl (q1 W hW) Z3)) ?_))))))
  refine D_E rfl ?_
  have e10 := (ed'.trans k9).trans k10
  have hu10 : ∀ W', Ext w W' → ∀ b, okl b ∧ b < w.heap.size → Unm W' b := fun W' e b hb => (hu b hb.1).eq (e.block b hb.2 (by simp))
  have htk : ∀ W', Ext w W' → SlAt fmlR (fun b => okl b ∧ b < w.heap.size) W' (.slice (some ⟨b', o', none⟩) k c) (l.take k) := fun W' e => (hll.ext e).take (by omega)
  have hszl : ∀ y ∈ l.take k, szF y ≤ 1000000 := fun y hy => by
   obtain ⟨i, hi⟩ := List.getElem?_of_mem (List.mem_of_mem_take hy)
   have := (hok i y hi).2.1
   simp [Ci] at this; omega
  refine AE rfl (AQ (find_ok w10 _ (l.take k) b' (o' + k * 5) x _ _ (htk w10 e10) (hpx.keep ((kd.trans k9).trans k10) (fun _ _ => by simp)) (.inl (hu10 w10 e10)) hszl) rfl ?_)
  rintro _ w11 ⟨rfl, k11⟩
  have hfn : findI (l.take k) x = -1 := by unfold findI; rw [r4]
  rw [hfn]
  refine AO ⟨Ext wd, fun _ e => e, (k9.trans k10).trans k11, ?_⟩
  refine D_geqF rfl rfl rfl rfl (by omega) (D_R rfl rfl (fun W hW => AJ rfl (AB rfl Z3)) (Ah ?_))
  repeat first | refine nx rfl ?_ | refine nf rfl ?_
  clear q1 q2 q3 q4 q5
  have k811 := kd.trans ((k9.trans k10).trans k11)
  replace b4 := b4.keep k811 (by simp)
  replace b38 := b38.keep k811 (by simp)
  replace b18 := b18.keep k811 (by simp)
  replace hpx := hpx.keep k811 (fun _ _ => by simp)
  have e11 := e8.trans k811
  have c4 := b4.cell (o := 0) rfl
  refine AA (AF rfl (Blk.cell (by assumption) (by rfl)) ?_)
  refine AQ (pastNodes_ok w11 b' (o' + k * 5)) rfl ?_
  rintro _ w12 ⟨rfl, n12⟩
  repeat refine nx rfl ?_
  replace b4 := b4.keep n12.keep (by simp)
  replace b38 := b38.keep n12.keep (by simp)
  replace b18 := b18.keep n12.keep (by simp)
  replace hpx := hpx.keep n12.keep (fun _ _ => by simp)
  have e12 := e11.trans n12.keep
  have kW12 : Ext W w12 := ((k6.trans k8).trans k811).trans n12.keep
  refine C_eachPn (X0 := []) (fun Z _ V => Ext w12 V ∧ ∀ z ∈ Z, w12.heap.size ≤ z) rfl (by kernel_rfl) rfl n12.blk (hpx.mono fun _ _ => by simp) (by simp) ⟨Ext.refl _, by simp⟩ (fun Z Z' L V V' Y hi hk hY hZ => ?_) (fun l' b2' o2' y Z L V hP hA => ?_) (fun V Z kV hmZ hmV iV dV => ?_)
  ·have e := hi.1.keep hk fun y hy => hi.2 y (hY y hy)
   exact ⟨e, fun z hz => (hZ z hz).elim (hi.2 z) fun h => Nat.le_trans hi.1.size h.1⟩
  ·repeat refine nx rfl ?_
   refine AA (AC (AP rfl ?_))
   repeat refine nx rfl ?_
   refine ⟨rfl, fun W2 e2 hi hy => ?_⟩
   have eV := e12.trans hi.1
   have b4V := b4.keep hi.1 (by simp)
   have b38V := b38.keep hi.1 (by simp)
   have b18V := b18.keep hi.1 (by simp)
   obtain ⟨cb, tb, hcb, hcb0⟩ := unm_blk (hu10 W2 eV b' hbx) (hpx.keep hi.1 (fun _ _ => by simp)).opc
   obtain ⟨ca, ta, fa, hca, hca0, _⟩ := cell_blk hy.opc
   repeat refine nx rfl ?_
   refine AA (AP rfl (AF rfl (Blk.cell (by assumption) (by rfl)) ?_))
   refine W_ptrNe rfl rfl hca hcb (.inr rfl) (by omega) hcb0 ?_
   by_cases hab : (⟨b2', o2', none⟩ : Addr) = ⟨b', o' + k * 5, none⟩
   ·rw [decide_eq_true hab]
    refine AB rfl (AL rfl (AL rfl (AL rfl (AL rfl ?_))))
    refine AL rfl (AL rfl (AJ rfl (AB rfl ?_)))
    repeat first | refine nx rfl ?_ | refine nf rfl ?_
    exact ⟨rfl, KZ.of (Ext.refl _), hi.1, hi.2⟩
   ·rw [decide_eq_false hab]
    have hyx : y ≠ x := fun e => hab (by obtain ⟨rfl, rfl⟩ := hA e; rfl)
    have hyl := r5 y (hP.subset (by simp)) hyx
    have hfi := findI_mem hyl
    (refine AB rfl (AE rfl (AF rfl (Blk.cell (by assumption) (by rfl)) ?_)) <;> refine AE rfl (AF rfl (Blk.cell (by assumption) (by rfl)) ?_) <;> refine AE rfl (W_slice_h rfl rfl (by omega) (by omega) (AE rfl (AP rfl ?_))))
    refine AE rfl (AQ (find_ok W2 _ (l.take k) b2' o2' y _ _ (htk W2 eV) hy (.inl (hu10 W2 eV)) hszl) rfl ?_)
    rintro _ W3 ⟨rfl, k3⟩
    refine AE rfl (Aj rfl rfl (by omega) (AK rfl (AB rfl ?_)))
    repeat first | refine nx rfl ?_ | refine nf rfl ?_
    exact ⟨rfl, KZ.of k3, hi.1.trans k3, hi.2⟩
  ·have hVW : Ext W V := kW12.trans iV.1
   repeat refine nx rfl ?_
   (refine AA (Av rfl rfl (by first | exact AV (by omega) (by omega) | exact AY (by omega) (by omega) | exact AW (by omega) (by omega)) ?_) <;> refine AG rfl ?_)
   repeat refine nx rfl ?_
   refine ⟨k + 1, ⟨⟨rfl, rfl, rfl, ?_, trivial⟩, ⟨by omega, kW.trans hVW, w12.heap.size :: bs, rfl, ?_, fun b hb => ?_⟩⟩, by omega⟩
   ·show Value.int .i64 ((k : Int) + 1) = _
    rw [Int.natCast_add]; rfl
   ·refine List.nodup_cons.2 ⟨fun hb => ?_, hnd⟩
    have h1 := (Array.getElem?_eq_some_iff.1 (hbs _ hb).2).1
    have := kW12.size; omega
   ·rcases List.mem_cons.1 hb with rfl | hb
    ·exact ⟨by have := kW.size; have := kW12.size; omega, dV⟩
    ·have h1 := (Array.getElem?_eq_some_iff.1 (hbs _ hb).2).1
     exact ⟨(hbs b hb).1, (hVW.block b h1 (by simp)).trans (hbs b hb).2⟩
 ·refine AA (Aj rfl rfl (by omega) ?_)
  repeat first | refine nx rfl ?_ | refine nf rfl ?_
  refine AA ?_
  refine Aa (v := .bool true) rfl rfl rfl (b2.keep kW (by simp)) (by simp) (fun w5 p5 => ?_)
  repeat refine nx rfl ?_
  refine finD_marks bs w5 hnd (fun b hb => (p5.keep.block b (Array.getElem?_eq_some_iff.1 (hbs b hb).2).1 (by have := (hbs b hb).1; simp; omega)).trans (hbs b hb).2) fun w9 k9 s9 => ?_
  exact BU (CL rfl ((p5.blk.keep k9 (fun hx => by have := (hbs _ hx).1; omega)).cell (o := 0) rfl) ⟨rfl, ((k2.trans kW).keep p5.keep (by simp; omega)).keep k9 (fun y hy => by have := (hbs y hy).1; omega)⟩)
end Go.Proofs.YtkhhjdjmhbdjfaaGreatDoor
namespace Go.Proofs.YtkhhjdjmhbdjfaaGreatDoor
open Go.RowKit
set_option linter.unusedVariables false
variable {mk : Prop} [MK mk]
section
attribute [local semireducible] WC AX Bx BT Bu finQ finD Bw
variable {P : Program} {all : Array Oper} {Z : Fr → DS → List PanicEntry → World → Prop} {K : Fr → DS → World → Prop} {rest : List Oper} {f : Fr} {ds : DS} {w : World}
 {d : Nat} {ty xt yt : TypeId} {pos : String} {af : Array Edge} {x y : Operand}
theorem W_shl1 {n : Nat} (hx : ev f x = .int .i64 1) (hy : ev f y = .int .i64 (n : Int)) (hn : n ≤ 60) (h : AX P all Z K rest (upd f d (.int .i64 ((2 ^ n : Nat) : Int))) ds w) :
  AX P all Z K (⟨some d, .binOp .shl xt x y yt, ty, pos, af, none⟩ :: rest) f ds w := by
 have h1 : (2 : Nat) ^ n ≤ 2 ^ 60 := Nat.pow_le_pow_right (by omega) hn
 have h2 : ((2 ^ n : Nat) : Int) = (2 : Int) ^ n := by simp
 have hr : inR .i64 ((2 : Int) ^ n) := by
  rw [← h2]
  generalize (2 : Nat) ^ n = q at h1
  exact AV (by omega) (by omega)
 rw [h2] at h
 exact BB rfl (by simp [execOp, hx, hy, eqGuard, binOp, wrap_in hr]) h
theorem W_shr {m n : Nat} (hx : ev f x = .int .i64 (m : Int)) (hy : ev f y = .int .i64 (n : Int)) (hn : n ≤ 60) (h : AX P all Z K rest (upd f d (.int .i64 ((m / 2 ^ n : Nat) : Int))) ds w) :
  AX P all Z K (⟨some d, .binOp .shr xt x y yt, ty, pos, af, none⟩ :: rest) f ds w := by
 have e : (m : Int).fdiv (2 ^ n) = ((m / 2 ^ n : Nat) : Int) := by
  rw [Int.fdiv_eq_ediv_of_nonneg _ (by exact Int.pow_nonneg (by omega))]; simp
 exact BB rfl (by simp only [execOp, hx, hy, eqGuard, binOp, Op.shift, if_neg (show ¬ (n : Int) < 0 by omega), show min (n : Int).toNat IntKind.i64.bits = n from by rw [Int.toNat_natCast]; exact Nat.min_eq_left (by show n ≤ 64; omega), e]; simp) h
theorem W_bits_and {m n : Nat} (hx : ev f x = .int .i64 (m : Int)) (hy : ev f y = .int .i64 (n : Int)) (hm : m < 2 ^ 62) (hn : n < 2 ^ 62) (h : AX P all Z K rest (upd f d (.int .i64 ((m &&& n : Nat) : Int))) ds w) :
  AX P all Z K (⟨some d, .binOp .and xt x y yt, ty, pos, af, none⟩ :: rest) f ds w := by
 have hle : m &&& n ≤ m := Nat.and_le_left
 have hr : inR .i64 ((m &&& n : Nat) : Int) := AV (by omega) (by omega)
 have e : (BitVec.ofInt IntKind.i64.bits (m : Int) &&& BitVec.ofInt IntKind.i64.bits (n : Int)).toNat = m &&& n := by
  show (BitVec.ofInt 64 (m : Int) &&& BitVec.ofInt 64 (n : Int)).toNat = m &&& n
  rw [BitVec.toNat_and, BitVec.ofInt_natCast, BitVec.ofInt_natCast, BitVec.toNat_ofNat, BitVec.toNat_ofNat, Nat.mod_eq_of_lt (by omega), Nat.mod_eq_of_lt (by omega)]
 exact BB rfl (by simp only [execOp, hx, hy, eqGuard, binOp, Op.intBits, e, wrap_in hr]; simp) h
theorem W_bits_or {m n : Nat} (hx : ev f x = .int .i64 (m : Int)) (hy : ev f y = .int .i64 (n : Int)) (hm : m < 2 ^ 62) (hn : n < 2 ^ 62) (h : AX P all Z K rest (upd f d (.int .i64 ((m ||| n : Nat) : Int))) ds w) :
  AX P all Z K (⟨some d, .binOp .or xt x y yt, ty, pos, af, none⟩ :: rest) f ds w := by
 have hle : m ||| n < 2 ^ 62 := Nat.or_lt_two_pow hm hn
 have hr : inR .i64 ((m ||| n : Nat) : Int) := AV (by omega) (by omega)
 have e : (BitVec.ofInt IntKind.i64.bits (m : Int) ||| BitVec.ofInt IntKind.i64.bits (n : Int)).toNat = m ||| n := by
  show (BitVec.ofInt 64 (m : Int) ||| BitVec.ofInt 64 (n : Int)).toNat = m ||| n
  rw [BitVec.toNat_or, BitVec.ofInt_natCast, BitVec.ofInt_natCast, BitVec.toNat_ofNat, BitVec.toNat_ofNat, Nat.mod_eq_of_lt (by omega), Nat.mod_eq_of_lt (by omega)]
 exact BB rfl (by simp only [execOp, hx, hy, eqGuard, binOp, Op.intBits, e, wrap_in hr]; simp) h
end
end Go.Proofs.YtkhhjdjmhbdjfaaGreatDoor
namespace Go.Proofs.YtkhhjdjmhbdjfaaGreatDoor
open Go.RowKit
set_option linter.unusedVariables false
variable {mk : Prop} [MK mk]
theorem isMemory_ok (w : World) (v : Value) (l : List Fml) (m : Nat) (okl : Nat → Prop) (hl : SlAt fmlR okl w v l) (hu : ∀ b, okl b → Unm w b) (hG : GF w) (hK : KY w) (hN : 3 ≤ w.heap.size) (hok : listOk l) (hm : m < 2 ^ l.length) : Fn Tryz.prog 41 [v, .int .i64 m] w fun u w' => u = .bool true ∧ Ext w w' := by
 obtain ⟨a, c, rfl, hlm⟩ := hl.len
 have h8 := hok.1
 refine AR Tryz.func41 rfl Tryz.ntmps41 (Nat.le_of_ble_eq_true rfl) (by kernel_rfl) ?_
 repeat refine nx rfl ?_
 refine AA (AC (AB rfl ?_))
 repeat refine nx rfl ?_
 refine AA (AM rfl ?_)
 refine AQ (isList_ok w _ l okl hl hu hG hK hN hok) rfl ?_
 rintro _ w1 ⟨rfl, k1⟩
 refine AB rfl (AE rfl (AG rfl (AE rfl (BC rfl rfl (by omega) (AK rfl (AB rfl (AB rfl (AE rfl (AG rfl (AE rfl (AM rfl (AE rfl (AZ rfl ?_)))))))))))))
 refine AE rfl (W_shl1 rfl rfl (by omega) ?_)
 refine AE rfl (At rfl rfl (by omega) (AK rfl (AB rfl (AC (AB rfl ?_)))))
 repeat refine nx rfl ?_
 exact AI rfl ⟨rfl, k1⟩
structure SaysR (fv : Value) (w0 : World) (n : Nat) (p : Nat → Bool) : Prop where
 fn : ∃ (g : FuncId) (cap : List Value), AS Tryz.prog g ∧ fv = .func (.func g) #[] cap.toArray ∧ ∀ (W : World) (i : Nat), Ext w0 W → i < n → Fn Tryz.prog g (.int .i64 i :: cap) W fun u W' => u = .bool (p i) ∧ Ext W W'
theorem memSet_ok (w : World) (i m c : Nat) (hi : i ≤ 60) (hm : m < 2 ^ 62) (hc : Blk w c 3 [.int .i64 m]) : Fn Tryz.prog 61 [.int .i64 i, pt c] w fun _ w' => Put w w' c 3 [.int .i64 (m ||| 2 ^ i : Nat)] := by
 have h1 : (2 : Nat) ^ i ≤ 2 ^ 60 := Nat.pow_le_pow_right (by omega) hi
 refine AR Tryz.func61 rfl Tryz.ntmps61 (Nat.le_of_ble_eq_true rfl) (by kernel_rfl) ?_
 repeat refine nx rfl ?_
 refine Ad (.read 1 (.read 2 (.alt 0 (.read 3 (.alt 4 .done .stop)) .stop))) Ax (by kernel_rfl) (fun wd kd ed => ⟨fun _ => True, ?_, ?_⟩)
 ·trivial
 ((apply D_R rfl rfl; (intro W hW; refine AG rfl ?_; exact AO ⟨rfl, rfl, rfl⟩)))
 refine D_R rfl rfl (fun V hV => by refine W_shl1 rfl rfl hi ?_; exact AO ⟨rfl, rfl, rfl⟩) ?_
 refine D_E rfl ?_
 refine AF rfl ((hc.keep kd (by simp)).cell (o := 0) rfl) ?_
 refine AO ⟨_, fun _ h => h, trivial, ?_⟩
 refine D_R rfl rfl (fun V hV => by refine W_bits_or rfl rfl hm (by omega) ?_; exact AO ⟨rfl, rfl, rfl⟩) ?_
 refine D_E rfl ?_
 refine Aa rfl rfl rfl (hc.keep kd (by simp)) (by simp) (fun w2 p2 => ?_)
 refine AO ⟨_, fun _ h => h, trivial, ?_⟩
 refine Ah ?_
 repeat refine nx rfl ?_
 exact Cu rfl ⟨kd.any.trans p2.keep (fun _ h _ => h), by have := p2.size; rw [this, ed], p2.blk⟩
theorem bitsN_succ (p : Nat → Bool) (k : Nat) : bitsN p (k + 1) = bitsN p k ||| (if p k then 2 ^ k else 0) := by
 rw [bitsN]; congr 1; split <;> simp [Nat.shiftLeft_eq]
theorem memoryOf_ok (w : World) (fv : Value) (n : Nat) (p : Nat → Bool) (hn : n ≤ 60) (H : SaysR fv w n p) : Fn Tryz.prog 29 [.int .i64 n, fv] w fun u w' => u = .int .i64 (bitsN p n : Nat) ∧ Ext w w' := by
 obtain ⟨g, cap, hg, rfl, hfn⟩ := H.fn
 refine AR Tryz.func29 rfl Tryz.ntmps29 (Nat.le_of_ble_eq_true rfl) (by kernel_rfl) ?_
 repeat refine nx rfl ?_
 refine AA (AC (AG rfl ?_))
 repeat refine nx rfl ?_
 (refine AA ?_; refine Ar (fun w1 n1 => ?_))
 refine Aa (v := .int .i64 0) rfl rfl rfl n1.blk (by simp) (fun w2 p2 => ?_)
 repeat refine nx rfl ?_
 refine AA (Ae rfl rfl (AC (Bq rfl ?_)))
 repeat refine nx rfl ?_
 refine AA (AG rfl (AG rfl ?_))
 repeat refine nx rfl ?_
 have z1 := n1.size
 have z2 := p2.size
 refine A3 (α := Nat) (fun k => [(1, .func (.func g) #[] cap.toArray), (5, pt w.heap.size), (6, .func (.func 61) #[] #[pt w.heap.size]), (9, .int .i64 (n : Int)), (10, .int .i64 (k : Int))]) (fun k W => k ≤ n ∧ Ext w W ∧ Blk W w.heap.size 3 [.int .i64 (bitsN p k : Nat)]) (fun k => n - k) 0 ⟨rfl, rfl, rfl, rfl, rfl, trivial⟩ ⟨by omega, n1.keep.keep p2.keep (by simp), p2.blk⟩ ?_
 rintro k W fr ⟨hk, kW, bW⟩
 repeat refine nx rfl ?_
 by_cases hlt : k < n
 ·refine AA (At rfl rfl (by omega) ?_)
  repeat refine nx rfl ?_
  refine AA (AG rfl (AC (AG rfl ?_)))
  repeat refine nx rfl ?_
  refine AA (Bq rfl (AG rfl ?_))
  refine BO (v1 := []) (v2 := cap) (vs := [.int .i64 (k : Int)]) rfl (hfn W k kW hlt) rfl ?_
  rintro _ w3 ⟨rfl, k3⟩
  refine AO ?_
  have b3 := bW.keep k3 (by simp)
  have hlt2 := bits_lt p k
  have hp2 : (2 : Nat) ^ k ≤ 2 ^ 60 := Nat.pow_le_pow_right (by omega) (by omega)
  cases hp : p k with
  | false =>
   repeat first | refine nx rfl ?_ | refine nf rfl ?_
   (refine AA (Av rfl rfl (by first | exact AV (by omega) (by omega) | exact AY (by omega) (by omega) | exact AW (by omega) (by omega)) ?_) <;> refine AG rfl ?_)
   repeat refine nx rfl ?_
   refine ⟨k + 1, ⟨rfl, ⟨rfl, rfl, rfl, rfl, ?_, trivial⟩, ⟨by omega, kW.trans k3, ?_⟩⟩, by omega⟩
   ·show Value.int .i64 ((k : Int) + 1) = _
    rw [Int.natCast_add]; rfl
   ·rw [bitsN_succ, hp]; simpa using b3
  | true =>
   repeat refine nx rfl ?_
   refine AA (Bq rfl (AG rfl ?_))
   refine BO (v1 := []) (v2 := [pt w.heap.size]) (vs := [.int .i64 (k : Int)]) rfl (memSet_ok w3 k _ _ (by omega) (by omega) b3) rfl ?_
   rintro _ w4 p4
   repeat refine nx rfl ?_
   (refine AA (Av rfl rfl (by first | exact AV (by omega) (by omega) | exact AY (by omega) (by omega) | exact AW (by omega) (by omega)) ?_) <;> refine AG rfl ?_)
   repeat refine nx rfl ?_
   refine ⟨k + 1, ⟨rfl, ⟨rfl, rfl, rfl, rfl, ?_, trivial⟩, ⟨by omega, (kW.trans k3).keep p4.keep (by simp), ?_⟩⟩, by omega⟩
   ·show Value.int .i64 ((k : Int) + 1) = _
    rw [Int.natCast_add]; rfl
   ·rw [bitsN_succ, hp]; exact p4.blk
 ·obtain rfl : k = n := by omega
  refine AA (Aj rfl rfl (by omega) ?_)
  repeat first | refine nx rfl ?_ | refine nf rfl ?_
  (refine AA (AF rfl (Blk.cell (by assumption) (by rfl)) ?_) <;> refine AC (AG rfl ?_))
  repeat refine nx rfl ?_
  exact AI rfl ⟨rfl, kW⟩
end Go.Proofs.YtkhhjdjmhbdjfaaGreatDoor
namespace Go.Proofs.YtkhhjdjmhbdjfaaGreatDoor
open Go.RowKit
set_option linter.unusedVariables false
variable {mk : Prop} [MK mk]
theorem start1_ok (w : World) (a : Option Addr) (c c1 : Nat) (l : List Fml) (okl : Nat → Prop) (i : Nat) (hl : SlAt fmlR okl w (.slice a l.length c) l) (hb : Blk w c1 23 [.slice a l.length c]) (hi : i < l.length) :
  Fn Tryz.prog 30 [.int .i64 i, pt c1] w fun u w' => u = .bool (decide ((l.getD i Af).val = 1)) ∧ Ext w w' := by
 obtain ⟨x, hx⟩ : ∃ x, l[i]? = some x := ⟨_, List.getElem?_eq_getElem hi⟩
 obtain ⟨b, o, rfl, hpx⟩ := hl.pf hx
 obtain ⟨_, _, _, _, _, q2, _, _, _⟩ := hpx.all
 have hg : l.getD i Af = x := by simp [List.getD_eq_getElem?_getD, hx]
 rw [hg]
 refine AR Tryz.func30 rfl Tryz.ntmps30 (Nat.le_of_ble_eq_true rfl) (by kernel_rfl) ?_
 repeat refine nx rfl ?_
 refine AA (AC (AB rfl ?_))
 repeat refine nx rfl ?_
 by_cases hv : x.val = 1
 ·(refine AA (AF rfl (Blk.cell (by assumption) (by rfl)) ?_) <;> refine AG rfl (Au rfl rfl rfl (by omega) (AD rfl (AF rfl (by assumption) ?_))) <;> refine Ai rfl rfl (by omega) (AC (AB rfl ?_)))
  repeat refine nx rfl ?_
  exact AI rfl ⟨by rw [decide_eq_true hv]; rfl, Ext.refl _⟩
 ·(refine AA (AF rfl (Blk.cell (by assumption) (by rfl)) ?_) <;> refine AG rfl (Au rfl rfl rfl (by omega) (AD rfl (AF rfl (by assumption) ?_))) <;> refine AT rfl rfl (by omega) (AC (AB rfl ?_)))
  repeat refine nx rfl ?_
  exact AI rfl ⟨by rw [decide_eq_false hv]; rfl, Ext.refl _⟩
theorem start_ok (w : World) (v : Value) (l : List Fml) (okl : Nat → Prop) (hl : SlAt fmlR okl w v l) (hu : ∀ b, okl b → Unm w b) (hG : GF w) (hK : KY w) (hN : 3 ≤ w.heap.size) (hok : listOk l) : Fn Tryz.prog 7 [v] w fun u w' => u = .int .i64 (startI l : Nat) ∧ Ext w w' := by
 obtain ⟨a, c, rfl, hlm⟩ := hl.len
 have hll := hl.lt (show (0 : Nat) < 5 by omega)
 refine AR Tryz.func7 rfl Tryz.ntmps7 (Nat.le_of_ble_eq_true rfl) (by kernel_rfl) ?_
 repeat refine nx rfl ?_
 (refine AA ?_; refine A5 (L := [.slice a l.length c]) rfl (fun w1 n1 => ?_))
 refine AC (AG rfl ?_)
 repeat refine nx rfl ?_
 have k1 := n1.keep
 have b1 := n1.blk
 refine AA (AF rfl (Blk.cell (by assumption) (by rfl)) ?_)
 refine AQ (isList_ok w1 _ l _ (hll.ext k1) (fun b hb => (hu b hb.1).eq (k1.block b hb.2 (by simp))) (hG.ext k1) (hK.keep k1 (by simp)) (Nat.le_trans hN k1.size) hok) rfl ?_
 rintro _ w2 ⟨rfl, k2⟩
 have b2 := n1.blk.keep k2 (by simp)
 have k12 := k1.trans k2
 refine Ak rfl ?_
 repeat first | refine nx rfl ?_ | refine nf rfl ?_
 (refine AA (AF rfl (Blk.cell (by assumption) (by rfl)) ?_) <;> refine AZ rfl (Ae rfl rfl ?_))
 refine AQ (memoryOf_ok w2 _ l.length (fun i => decide ((l.getD i Af).val = 1)) (by have := hok.1; omega) ⟨_, [pt w.heap.size], inferInstance, rfl, fun W i e hi => start1_ok W a c w.heap.size l _ i (hll.ext (k12.trans e)) (b2.keep e (by simp)) hi⟩) rfl ?_
 rintro _ w3 ⟨rfl, k3⟩
 refine AC (AG rfl ?_)
 repeat refine nx rfl ?_
 exact AI rfl ⟨rfl, k12.trans k3⟩
end Go.Proofs.YtkhhjdjmhbdjfaaGreatDoor
namespace Go.Proofs.YtkhhjdjmhbdjfaaGreatDoor
open Go.RowKit
set_option linter.unusedVariables false
variable {mk : Prop} [MK mk]
theorem bit_of (m i : Nat) : ((m / 2 ^ i &&& 1 : Nat) : Int) = bitI (m.testBit i) := by
 rw [Nat.and_one_is_mod, Nat.testBit_eq_decide_div_mod_eq]
 have h : m / 2 ^ i % 2 = 0 ∨ m / 2 ^ i % 2 = 1 := by omega
 rcases h with h | h <;> simp [h, bitI]
theorem put1_ok (w : World) (a : Option Addr) (c c1 c2 m : Nat) (l : List Fml) (okl : Nat → Prop) (b o : Nat) (g : Fml) (hl : SlAt fmlR okl w (.slice a l.length c) l) (hu : ∀ b, okl b → Unm w b) (hz : ∀ x ∈ l, szF x ≤ 1000000) (h8 : l.length ≤ 8) (hm : m < 2 ^ l.length)
  (hb1 : Blk w c1 3 [.int .i64 m]) (hb2 : Blk w c2 23 [.slice a l.length c]) (hg : PF As w b o g) (hgl : g ∈ l) :
  Fn Tryz.prog 43 [.pointer (some ⟨b, o, none⟩), pt c1, pt c2] w fun u w' => u = .int .i64 (bitI (BI l m g)) ∧ Ext w w' := by
 have hll := hl.lt (show (0 : Nat) < 5 by omega)
 obtain ⟨i, hi⟩ := findN_mem hgl
 have hf : findI l g = (i : Int) := by unfold findI; rw [hi]
 have hs : BI l m g = m.testBit i := by unfold BI; rw [hi]
 have hil : i < l.length := (List.getElem?_eq_some_iff.1 (findN_some hi)).1
 have h2 : (2 : Nat) ^ l.length ≤ 2 ^ 60 := Nat.pow_le_pow_right (by omega) (by omega)
 have hmd : m / 2 ^ i ≤ m := Nat.div_le_self _ _
 rw [hs, ← bit_of]
 refine AR Tryz.func43 rfl Tryz.ntmps43 (Nat.le_of_ble_eq_true rfl) (by kernel_rfl) ?_
 repeat refine nx rfl ?_
 refine AA (AC (AG rfl ?_))
 repeat refine nx rfl ?_
 refine Ad (.read 0 (.read 1 (.read 2 (.alt 3 (.read 4 (.read 5 (.read 6 .done))) .stop)))) Ax (by kernel_rfl) (fun wd kd ed => ⟨Ext wd, ?_, ?_⟩)
 ·exact Ext.refl _
 have q1 : ∀ V, Ext wd V → V.cell? ⟨c1, 0, none⟩ = some (.int .i64 m) := fun V e => (hb1.keep (kd.trans e) (by simp)).cell rfl
 have q2 : ∀ V, Ext wd V → V.cell? ⟨c2, 0, none⟩ = some (.slice a l.length c) := fun V e => (hb2.keep (kd.trans e) (by simp)).cell rfl
 refine D_R rfl rfl (fun W hW => AF rfl (q1 W hW) Z3) (D_R rfl rfl (fun W hW => AF rfl (q2 W hW) Z3) (D_R rfl rfl (fun W hW => AP rfl Z3) ?_))
 refine D_E rfl ?_
 refine AQ (find_ok wd _ l b o g _ _ (hll.ext kd) (hg.keep kd (fun _ _ => by simp)) (.inl fun b hb => (hu b hb.1).eq (kd.block b hb.2 (by simp))) hz) rfl ?_
 rintro _ w2 ⟨rfl, k2⟩
 rw [hf]
 refine AO ⟨Ext wd, fun _ e => e, k2, ?_⟩
 refine D_R rfl rfl (fun V hV => by refine W_shr rfl rfl (by omega) ?_; exact AO ⟨rfl, rfl, rfl⟩) ?_
 refine D_R rfl rfl (fun V hV => by refine W_bits_and (n := 1) rfl rfl (by omega) (by omega) ?_; exact AO ⟨rfl, rfl, rfl⟩) ?_
 refine D_R rfl rfl (fun W hW => AC (AG rfl Z3)) (Ah ?_)
 repeat refine nx rfl ?_
 exact AI rfl ⟨rfl, kd.trans k2⟩
theorem pn_self {f : Fml} (h : Cm f.op = true) : f ∈ pnF f := by rw [pnF_parts, h]; simp
theorem pn_args {f a x : Fml} (ha : a ∈ f.args) (hx : x ∈ pnF a) : x ∈ pnF f := by
 rw [pnF_parts, List.mem_append]
 exact .inl (by rw [pnL_eq]; exact List.mem_flatMap.2 ⟨a, ha, hx⟩)
theorem put_ok (w : World) (v vf : Value) (f : Fml) (l : List Fml) (m : Nat) (okl : Nat → Prop) (hl : SlAt fmlR okl w v l) (hf : FAt As w vf f) (hu : ∀ b, okl b → Unm w b) (hG : GF w) (hK : KY w) (hN : 3 ≤ w.heap.size) (hok : listOk l) (hm : m < 2 ^ l.length) (hk : Ci f = true) (hall : ∀ x ∈ pnF f, x ∈ l) :
  Fn Tryz.prog 14 [v, .int .i64 m, vf] w fun u w' => Ext w w' ∧ FAt (fun b => w.heap.size ≤ b) w' u (chF (fun g => bitI (BI l m g)) f) := by
 obtain ⟨a, c, rfl, hlm⟩ := hl.len
 have hll := hl.lt (show (0 : Nat) < 5 by omega)
 have hflt := hf.lt
 obtain ⟨cs, rfl, hcs, hone⟩ := hf.cells
 have hz : ∀ x ∈ l, szF x ≤ 1000000 := fun y hy => by
  obtain ⟨i, hi⟩ := List.getElem?_of_mem hy
  have := (hok.2 i y hi).2.1
  simp [Ci] at this; omega
 have hszf : szF f ≤ 60 := by simp [Ci] at hk; exact hk.1.1
 refine AR Tryz.func14 rfl Tryz.ntmps14 (Nat.le_of_ble_eq_true rfl) (by kernel_rfl) ?_
 repeat refine nx rfl ?_
 (refine AA ?_; refine A5 (L := [.slice a l.length c]) rfl (fun w1 n1 => ?_))
 refine A5 (L := [.int .i64 m]) rfl (fun w2 n2 => ?_)
 refine A5 (L := cs) rfl (fun w3 n3 => ?_)
 refine Ar (fun w4 n4 => ?_)
 repeat refine nx rfl ?_
 have z1 := n1.size
 have z2 := n2.size
 have z3 := n3.size
 have z4 := n4.size
 have k4 : Ext w w4 := ((n1.keep.trans n2.keep).trans n3.keep).trans n4.keep
 have b1 := n1.blk.keep ((n2.keep.trans n3.keep).trans n4.keep) (by simp)
 have b2 := n2.blk.keep (n3.keep.trans n4.keep) (by simp)
 have b3 := n3.blk.keep n4.keep (by simp)
 have b4 : Blk w4 w3.heap.size 25 zero5 := n4.blk
 have hf4 : PF (fun b => b < w4.heap.size) w4 w2.heap.size 0 f := ⟨by omega, cs, hcs, b3.cells, (hflt.ext k4).mono fun x hx => by have := hx.2; omega⟩
 have hu4 : ∀ V, Ext w V → ∀ b, okl b ∧ b < w.heap.size → Unm V b := fun V e b hb => (hu b hb.1).eq (e.block b hb.2 (by simp))
 (refine AA (AF rfl (Blk.cell (by assumption) (by rfl)) ?_) <;> refine AF rfl (Blk.cell (by assumption) (by rfl)) ?_)
 refine AQ (isMemory_ok w4 _ l m _ (hll.ext k4) (hu4 w4 k4) (hG.ext k4) (hK.keep k4 (by simp)) (Nat.le_trans hN k4.size) hok hm) rfl ?_
 rintro _ w5 ⟨rfl, k5⟩
 replace b1 := b1.keep k5 (by simp)
 replace b2 := b2.keep k5 (by simp)
 replace b4 := b4.keep k5 (by simp)
 have e5 := k4.trans k5
 refine Ak rfl (AB rfl (AE rfl (AF rfl (Blk.cell (by assumption) (by rfl)) ?_)))
 refine AE rfl (AQ (hasNodes_ok w5 _ l w2.heap.size 0 f _ (hll.ext e5) ((hf4.keep k5 (fun _ _ => by simp)).mono fun _ _ => trivial) (hu4 w5 e5) hz (hG.ext e5) (hK.keep e5 (by simp)) (Nat.le_trans hN e5.size) hk hall) rfl ?_)
 rintro _ w6 ⟨rfl, k6⟩
 replace b1 := b1.keep k6 (by simp)
 replace b2 := b2.keep k6 (by simp)
 replace b4 := b4.keep k6 (by simp)
 have e6 := e5.trans k6
 have hf6 := (hf4.keep k5 (fun _ _ => by simp)).keep k6 (fun _ _ => by simp)
 have hz6 : w4.heap.size ≤ w6.heap.size := (k5.trans k6).size
 refine AE rfl (Ak rfl (AJ rfl (AB rfl ?_)))
 repeat first | refine nx rfl ?_ | refine nf rfl ?_
 have H : ValR (.func (.func 43) #[] #[pt w1.heap.size, pt w.heap.size]) w6 (fun g => ∀ x ∈ pnF g, x ∈ l) (fun g => bitI (BI l m g)) :=
  ⟨⟨_, [pt w1.heap.size, pt w.heap.size], inferInstance, rfl, fun W b o x e hx hP hr => put1_ok W a c w1.heap.size w.heap.size m l _ b o x (hll.ext (e6.trans e)) (hu4 W (e6.trans e)) hz hok.1 hm (b2.keep e (by simp)) (b1.keep e (by simp)) (hx.mono fun _ _ => trivial) (hP x (pn_self hr))⟩, fun x hP a' ha y hy => hP y (pn_args ha hy)⟩
 refine AA (Ae rfl rfl ?_)
 refine AQ (changed_ok H (dpF f) w6 w2.heap.size 0 f (Nat.le_refl _) (by omega) (Ext.refl _) (hf6.mono fun b hb => by omega) hall) rfl ?_
 rintro u w7 ⟨k7, f7⟩
 obtain ⟨cs7, rfl, hcs7, hone7⟩ := f7.cells
 refine AU (cs := cs7) rfl rfl hcs7 hone7 (b4.keep k7 (by simp)) (by simp [zero5]) (fun w8 p8 => ?_)
 repeat refine nx rfl ?_
 have e8 := p8.blk
 rw [splice_full zero5 cs7 (by rw [hcs7]; rfl)] at e8
 exact A2 rfl rfl hcs7 e8.cells ⟨(e6.trans k7).keep p8.keep (by simp; omega), (f7.keep p8.keep (fun b hb => by simp; omega)).mono fun b hb => by have := e6.size; omega⟩
end Go.Proofs.YtkhhjdjmhbdjfaaGreatDoor
