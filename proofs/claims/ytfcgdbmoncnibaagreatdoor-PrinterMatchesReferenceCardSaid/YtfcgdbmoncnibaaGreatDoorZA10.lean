/- The printer: the pieces of a node. The printer: pieces, walked. The printer: pieces put the other way round. Rules: pointers compared. Rules: pointers compared, turned into raw pointers and back, text appended, bytes read as a string. The printer: the builder. The printer's plain law: how much is written. The printer: a formula, walked. The printer: requirements and signals, walked. Conditions: none. -/
import Derived.Test.YtfcgdbmoncnibaaGreatDoorZA9
import Derived.Lib.Builder
import Derived.LaidEql
import Derived.Lib.AppendStr
import Derived.Lib.UnsafeStr
import Derived.Laws.Externs

namespace Go.Proofs.YtfcgdbmoncnibaaGreatDoor
open Go.RowKit
set_option linter.unusedVariables false
inductive Pc where
 | txt (t : List UInt8)
 | sub (f : Fml) (n : Nat)
def subC (b o n : Nat) : List Value := [AM [], .pointer (some ⟨b, o, none⟩), .int .i64 (n : Int)]
def txtC (t : List UInt8) : List Value := [AM t, .pointer none, .int .i64 0]
def pcFits (ok : Nat → Prop) (w : World) (c : List Value) : Pc → Prop
 | .txt t => c = txtC t
 | .sub f n => ∃ b o, c = subC b o n ∧ PF ok w b o f
def pcR : Rp Pc where
 fits := pcFits
 size := 3
 len {ok w c a} h := by
  cases a with
  | txt t => have h : c = txtC t := h; subst h; rfl
  | sub f n => obtain ⟨b, o, rfl, _⟩ := h; rfl
 one {ok w c a} h := by
  cases a with
  | txt t =>
   have h : c = txtC t := h
   subst h; intro u hu; simp [txtC] at hu; rcases hu with rfl | rfl | rfl <;> rfl
  | sub f n => obtain ⟨b, o, rfl, _⟩ := h; intro u hu; simp [subC] at hu; rcases hu with rfl | rfl | rfl <;> rfl
 keep {ok X w w' c a} h k hX := by
  cases a with
  | txt t => exact h
  | sub f n => obtain ⟨b, o, e, hp⟩ := h; exact ⟨b, o, e, hp.keep k hX⟩
 lt {ok w c a} h := by
  cases a with
  | txt t => exact h
  | sub f n => obtain ⟨b, o, e, hp⟩ := h; exact ⟨b, o, e, hp.lt⟩
 mono {ok ok' w c a} h hk := by
  cases a with
  | txt t => exact h
  | sub f n => obtain ⟨b, o, e, hp⟩ := h; exact ⟨b, o, e, hp.mono hk⟩
def argP (next : Nat) (sg : List UInt8) : List Fml → List Pc
 | [] => []
 | a :: l => .txt sg :: .sub a next :: argP next sg l
def CE (first next : Nat) (sg : List UInt8) : List Fml → List Pc
 | [] => []
 | a :: l => .sub a first :: argP next sg l
theorem argP_len (next : Nat) (sg : List UInt8) : ∀ l, (argP next sg l).length = 2 * l.length
 | [] => rfl
 | a :: l => by simp [argP, argP_len next sg l]; omega
theorem argP_snoc (next : Nat) (sg : List UInt8) (a : Fml) : ∀ l, argP next sg (l ++ [a]) = argP next sg l ++ [.txt sg, .sub a next]
 | [] => rfl
 | c :: l => by simp [argP, argP_snoc next sg a l]
theorem argsP_snoc {first next : Nat} {sg : List UInt8} {a : Fml} {l : List Fml} (h : l ≠ []) : CE first next sg (l ++ [a]) = CE first next sg l ++ [.txt sg, .sub a next] := by
 cases l with
 | nil => exact absurd rfl h
 | cons c l => simp [CE, argP_snoc]
theorem argsP_len (first next : Nat) (sg : List UInt8) (l : List Fml) : (CE first next sg l).length ≤ 2 * l.length := by
 cases l with
 | nil => simp [CE]
 | cons a l => simp [CE, argP_len]; omega
def CW (s : Sty) (n : Nat) : List Pc := if s.level < n then [.txt [40]] else []
def Cp (s : Sty) (n : Nat) : List Pc := if s.level < n then [.txt [41]] else []
def CC (sg : List UInt8) (k : Nat) : List Pc := if k < 2 then [.txt sg] else []
def pcs (s : Sty) (n : Nat) (f : Fml) : List Pc :=
 CW s n ++ CC (sgT f.op f.name f.val f.bound) f.args.length ++ CE s.first s.next (sgT f.op f.name f.val f.bound) f.args ++ Cp s n
structure PS (C B : Nat) (v : Value) (L : List (List Value)) (ps : List Pc) (W : World) : Prop where
 own : W.ownsRow B 125 3 v ps.length L.flatten
 rs : RsAt pcR (fun b => b < C) W L ps
 le : C ≤ B
theorem PS.ext {C B : Nat} {v : Value} {L : List (List Value)} {ps : List Pc} {W W' : World} (h : PS C B v L ps W) (k : Ext W W') : PS C B v L ps W' := ⟨Bw h.own k, h.rs.ext k, h.le⟩
theorem PS.app {C B : Nat} {v v2 : Value} {L M : List (List Value)} {ps qs : List Pc} {W1 W2 : World} (h : PS C B v L ps W1) (a : Apd W1 W2 B 125 3 v v2 (ps.length + qs.length) (L.flatten ++ M.flatten)) (hq : RsAt pcR (fun b => b < C) W1 M qs) : PS C B v2 (L ++ M) (ps ++ qs) W2 := by
 have hX : ∀ b, b < C → b ∉ v.ownBlock.toList := fun b hb hx => by
  have := (Bb h.own (Option.mem_toList.1 hx)).1; have := h.le; omega
 refine ⟨?_, (h.rs.keep a.keep hX).app (hq.keep a.keep hX), h.le⟩
 rw [List.length_append, List.flatten_append]
 exact a.own
theorem PS.nil {C B : Nat} (h : C ≤ B) (W : World) : PS C B (.slice none 0 0) [] [] W := ⟨⟨by simp, .inl ⟨rfl, rfl⟩⟩, RsAt.nil, h⟩
theorem txt_fits (ok : Nat → Prop) (w : World) (t : List UInt8) : RsAt pcR ok w [txtC t] [.txt t] := RsAt.one (R := pcR) (a := .txt t) rfl
theorem PS.form {C B : Nat} {v : Value} {L : List (List Value)} {ps : List Pc} {W : World} (h : PS C B v L ps W) : ∃ a c, v = .slice a ps.length c := by
 rcases h.own.2 with ⟨rfl, h0⟩ | ⟨g, cap, cur, rfl, _⟩
 ·exact ⟨none, 0, by rw [h0]⟩
 ·exact ⟨_, _, rfl⟩
def outP : Pc → List UInt8
 | .txt t => t
 | .sub f n => prF n f
theorem out_argP (next : Nat) (sg : List UInt8) : ∀ l, (argP next sg l).flatMap outP = prR next sg l
 | [] => by simp [argP, prR]
 | a :: l => by simp [argP, prR, outP, out_argP next sg l]
theorem out_pcs {f : Fml} {s : Sty} (hs : BS f.op = some s) (n : Nat) : (pcs s n f).flatMap outP = prF n f := by
 have esd : CO f.op = s := by unfold CO; rw [hs]; rfl
 cases f with
 | mk op nm v b args =>
  have esd : CO op = s := esd
  simp only [prF, esd]
  have hA : (CC (sgT op nm v b) args.length ++ CE s.first s.next (sgT op nm v b) args).flatMap outP = prA s.first s.next (sgT op nm v b) args := by
   cases args with
   | nil => simp [CC, CE, prA, outP]
   | cons a l =>
    cases l with
    | nil => simp [CC, CE, argP, prA, prR, outP]
    | cons c l =>
     have h2 : ¬ (l.length + 1 + 1 < 2) := by omega
     simp [CC, CE, prA, outP, out_argP, h2]
  have e : pcs s n (.mk op nm v b args) = CW s n ++ (CC (sgT op nm v b) args.length ++ CE s.first s.next (sgT op nm v b) args) ++ Cp s n := by
   show CW s n ++ CC (sgT op nm v b) args.length ++ CE s.first s.next (sgT op nm v b) args ++ Cp s n = _
   simp
  rw [e, List.flatMap_append, List.flatMap_append, hA]
  by_cases hl : s.level < n
  ·simp [CW, Cp, hl, wrapT, outP]
  ·simp [CW, Cp, hl, wrapT]
end Go.Proofs.YtfcgdbmoncnibaaGreatDoor
namespace Go.Proofs.YtfcgdbmoncnibaaGreatDoor
open Go.RowKit
set_option linter.unusedVariables false
theorem split_node {f : Fml} {s : Sty} (hs : BS f.op = some s) : nodeOk f.op f.name f.val f.bound f.args.length = (nodeC s f && (!decide (f.op = 3) || BW f.name)) := by
 unfold nodeOk nodeC
 rw [hs]
 by_cases h3 : f.op = 3
 ·simp only [h3, if_true, decide_true, Bool.not_true, Bool.false_or, Bool.true_or, Bool.and_true]
  congr 1
  rw [Bool.eq_iff_iff]
  simp only [Bool.and_eq_true, decide_eq_true_eq]
  constructor
  ·rintro ⟨a, b, c, d, e, g⟩; exact ⟨⟨⟨a, b⟩, c, d⟩, e, g⟩
  ·rintro ⟨⟨⟨a, b⟩, c, d⟩, e, g⟩; exact ⟨a, b, c, d, e, g⟩
 ·simp only [h3, if_false, decide_false, Bool.not_false, Bool.false_or, Bool.true_or, Bool.and_true]
  rw [Bool.eq_iff_iff]
  simp only [Bool.and_eq_true, decide_eq_true_eq]
  constructor
  ·rintro ⟨⟨a, b, c, d, e, g⟩, k⟩; exact ⟨⟨⟨⟨a, b⟩, c, d⟩, e, g⟩, k⟩
  ·rintro ⟨⟨⟨⟨a, b⟩, c, d⟩, e, g⟩, k⟩; exact ⟨⟨a, b, c, d, e, g⟩, k⟩
set_option maxHeartbeats 3200000 in
theorem pieces_ok (w : World) (C : Nat) (hC : C ≤ w.heap.size) (s : Sty) (b o n : Nat) (f : Fml) (hf : PF (fun b => b < C) w b o f) (hs : BS f.op = some s) (hn : n ≤ 9) (hk : f.args.length ≤ 1000000) (hG : GP w) :
  FnP Tryz.prog 77 [BR s, .pointer (some ⟨b, o, none⟩), .int .i64 (n : Int)] w
   (fun v w' => Ext w w' ∧ nodeOk f.op f.name f.val f.bound f.args.length = true ∧ ∃ L B, w.heap.size ≤ B ∧ PS C B v L (pcs s n f) w')
   (fun ch w' => ch = unp ∧ Ext w w' ∧ nodeOk f.op f.name f.val f.bound f.args.length = false) := by
 obtain ⟨_, a, c, LA, hcl, hSA, hFA⟩ := hf.form
 have hsg : (sgT f.op f.name f.val f.bound).length ≤ 1000000 ∨ True := .inr trivial
 refine Ap Tryz.func77 rfl Tryz.ntmps77 (Nat.le_of_ble_eq_true rfl) (by kernel_rfl) ?_
 repeat' first | refine nx rfl ?_ | fail
 (refine AA ?_; refine BL (L := By s) rfl (fun w1 n1 => ?_))
 have b1 := n1.blk
 have k1 := n1.keep
 ((refine AB ?_; refine Ak rfl ?_))
 repeat' first | refine nx rfl ?_ | fail
 (refine AA ?_ <;> refine AW rfl (by assumption) (by rfl) ?_ <;> refine AP rfl ?_)
 refine AZ (check_ok w1 s b o f a c (hcl.keep k1 (by simp))) rfl ?_ ?_
 rotate_left
 ·rintro ch w2 ⟨rfl, k2, hb⟩
  repeat' first | refine nx rfl ?_ | fail
  exact AY ⟨rfl, k1.trans k2, by rw [split_node hs, hb]; rfl⟩
 rintro _ w2 ⟨rfl, k2, hc2⟩
 repeat' first | refine nx rfl ?_ | fail
 have b2 := b1.keep k2 (by simp)
 have k12 := k2
 have z1 := n1.size
 replace k2 := k1.trans k2
 have z2 := k2.size
 refine AA (AB (Ak rfl ?_))
 repeat' first | refine nx rfl ?_ | fail
 have l1 : w2.cell? ⟨w.heap.size, 0 + 1, none⟩ = some (.int .i64 (s.level : Int)) := b2.cell rfl
 refine Bv (α := Value × List (List Value)) (fun x => [(1, .pointer (some ⟨b, o, none⟩)), (2, .int .i64 (n : Int)), (3, .pointer (some ⟨w.heap.size, 0, none⟩)), (7, x.1), (16, .bool (decide (s.level < n)))]) (fun x W => x = (.slice none 0 0, []) ∧ w2 = W) ?_ ?_
 ·by_cases hl : s.level < n
  ·rw [decide_eq_true hl]
   (refine AA (AD rfl ?_) <;> refine AG rfl (Blk.cell (by assumption) (by rfl)) ?_ <;> refine AI rfl ?_ <;> (refine As rfl rfl (fun hc => ?_) (fun hc => ?_) <;> try omega) <;> refine AE ?_)
   exact Am (_, _) ⟨rfl, rfl, rfl, rfl, rfl, trivial⟩ ⟨rfl, rfl⟩
  ·rw [decide_eq_false hl]
   (refine AA (AD rfl ?_) <;> refine AG rfl (Blk.cell (by assumption) (by rfl)) ?_ <;> refine AI rfl ?_ <;> (refine As rfl rfl (fun hc => ?_) (fun hc => ?_) <;> try omega) <;> refine AE ?_)
   exact Am (_, _) ⟨rfl, rfl, rfl, rfl, rfl, trivial⟩ ⟨rfl, rfl⟩
 rintro _ _ f3 ⟨rfl, rfl⟩
 refine Bv (α := Value × List (List Value)) (fun x => [(1, .pointer (some ⟨b, o, none⟩)), (2, .int .i64 (n : Int)), (3, .pointer (some ⟨w.heap.size, 0, none⟩)), (7, x.1)]) (fun x W => Ext w1 W ∧ PS C w1.heap.size x.1 x.2 (CW s n) W) ?_ ?_
 ·by_cases hl : s.level < n
  ·rw [decide_eq_true hl]
   repeat' first | refine nx rfl ?_ | fail
   (refine AA (Ak rfl ?_) <;> refine Ac (by rfl) (by rfl) ?_)
   have hlp : ([] : List Pc).length = 0 := rfl
   refine AV (out := txtC [40]) rfl (by omega) (by kernel_rfl) (fun w3 n3 => ?_)
   have rA := (n3).own (n := 1) (size := 3) rfl (by decide) (Nat.le_refl _)
   have hoA := (PS.nil (Nat.le_trans hC n1.keep.size) w2).ext (n3).keep
   have zA := (n3).size
   refine CF (ok := Aw) (v := .slice none 0 0) rfl rfl hoA.own (BC rA fun _ _ => trivial) (by omega) rfl rfl (by intro y hy; simp [txtC, subC] at hy; rcases hy with rfl | rfl | rfl | rfl | rfl | rfl <;> rfl) (by omega) (by omega) (by omega) (fun v3 w4 aA => ?_)
   have keA : Ext w1 w4 := ((k12).trans (n3).keep).keep aA.keep (fun y hy => (Bb hoA.own (Option.mem_toList.1 hy)).1)
   ((refine AB ?_; refine At ?_))
   repeat' first | refine nx rfl ?_ | fail
   refine Am (v3, [] ++ [txtC [40]]) ⟨rfl, rfl, rfl, rfl, trivial⟩ ⟨keA, ?_⟩
   rw [CW, if_pos hl]
   exact hoA.app (qs := [.txt [40]]) (M := [txtC [40]]) (by simpa using aA) (txt_fits _ _ _)
  ·rw [decide_eq_false hl]
   repeat' first | refine nx rfl ?_ | refine nf rfl ?_
   refine Am (_, []) ⟨rfl, rfl, rfl, rfl, trivial⟩ ⟨k12, ?_⟩
   rw [CW, if_neg hl]
   exact PS.nil (Nat.le_trans hC n1.keep.size) _
 rintro ⟨v, L⟩ w5 f5 ⟨k5, hP⟩
 simp only at hP ⊢
 repeat' first | refine nx rfl ?_ | fail
 have bx : ∀ W, Ext w1 W → Blk W w.heap.size 129 (By s) := fun W e => b1.keep e (by simp)
 have b5 := bx w5 k5
 (refine AA ?_ <;> refine AW rfl (by assumption) (by rfl) ?_ <;> refine AP rfl ?_)
 refine AZ (signOf_ok w5 s b o f _ (hcl.keep (k1.trans k5) (by simp)) hs hc2 (hG.ext (k1.trans k5))) rfl ?_ ?_
 rotate_left
 ·rintro ch w6 ⟨rfl, k6, h3, hb⟩
  repeat' first | refine nx rfl ?_ | fail
  exact AY ⟨rfl, (k1.trans k5).trans k6, by rw [split_node hs, hc2]; simp [h3, hb]⟩
 rintro _ w6 ⟨rfl, k6, hn3⟩
 have hnode : nodeOk f.op f.name f.val f.bound f.args.length = true := by
  rw [split_node hs, hc2]
  by_cases h3 : f.op = 3
  ·simp [hn3 h3]
  ·simp [h3]
 ((refine AB ?_; refine AT rfl ?_))
 repeat' first | refine nx rfl ?_ | fail
 have k16 : Ext w1 w6 := k5.trans k6
 have z16 := k16.size
 replace hP := hP.ext k6
 clear k5 k6 b5
 generalize hsgg : sgT f.op f.name f.val f.bound = sg
 have fa : ∀ W, Ext w1 W → W.cell? ⟨b, o + 4, none⟩ = some (.slice a f.args.length c) := fun W e => e.cell (k1.cell (hcl 4 _ rfl) (by simp)) (by simp)
 have fa6 := fa w6 k16
 have hop : (CW s n).length ≤ 1 := by unfold CW; split <;> simp
 refine Bv (α := Unit) (fun _ => [(1, .pointer (some ⟨b, o, none⟩)), (2, .int .i64 (n : Int)), (3, .pointer (some ⟨w.heap.size, 0, none⟩)), (7, v), (8, AM sg), (29, .bool (decide (f.args.length < 2)))]) (fun _ W => w6 = W) ?_ ?_
 ·by_cases hl : f.args.length < 2
  ·rw [decide_eq_true hl]
   (refine AA (AP rfl (AJ rfl (AD rfl ?_))) <;> refine AG rfl (by assumption) ?_ <;> refine Ao rfl ?_ <;> (refine As rfl rfl (fun hc => ?_) (fun hc => ?_) <;> try omega) <;> refine AE ?_)
   exact Am () ⟨rfl, rfl, rfl, rfl, rfl, rfl, trivial⟩ rfl
  ·rw [decide_eq_false hl]
   (refine AA (AP rfl (AJ rfl (AD rfl ?_))) <;> refine AG rfl (by assumption) ?_ <;> refine Ao rfl ?_ <;> (refine As rfl rfl (fun hc => ?_) (fun hc => ?_) <;> try omega) <;> refine AE ?_)
   exact Am () ⟨rfl, rfl, rfl, rfl, rfl, rfl, trivial⟩ rfl
 rintro _ _ f6 rfl
 refine Bv (α := Value × List (List Value)) (fun x => [(1, .pointer (some ⟨b, o, none⟩)), (2, .int .i64 (n : Int)), (3, .pointer (some ⟨w.heap.size, 0, none⟩)), (7, x.1), (8, AM sg)]) (fun x W => Ext w1 W ∧ PS C w1.heap.size x.1 x.2 (CW s n ++ CC sg f.args.length) W) ?_ ?_
 ·by_cases hl : f.args.length < 2
  ·rw [decide_eq_true hl]
   repeat' first | refine nx rfl ?_ | fail
   (refine AA (At (AT rfl ?_)) <;> refine Ac (by rfl) (by rfl) ?_)
   refine AV (out := txtC sg) rfl (by omega) (by kernel_rfl) (fun w7 n7 => ?_)
   have rA := (n7).own (n := 1) (size := 3) rfl (by decide) (Nat.le_refl _)
   have hoA := (hP).ext (n7).keep
   have zA := (n7).size
   refine CF (ok := Aw) (v := v) rfl rfl hoA.own (BC rA fun _ _ => trivial) (by omega) rfl rfl (by intro y hy; simp [txtC, subC] at hy; rcases hy with rfl | rfl | rfl | rfl | rfl | rfl <;> rfl) (by omega) (by omega) (by omega) (fun v7 w8 aA => ?_)
   have keA : Ext w1 w8 := ((k16).trans (n7).keep).keep aA.keep (fun y hy => (Bb hoA.own (Option.mem_toList.1 hy)).1)
   ((refine AB ?_; refine At ?_))
   repeat' first | refine nx rfl ?_ | fail
   refine Am (v7, L ++ [txtC sg]) ⟨rfl, rfl, rfl, rfl, rfl, trivial⟩ ⟨keA, ?_⟩
   rw [CC, if_pos hl]
   exact hoA.app (qs := [.txt sg]) (M := [txtC sg]) (by simpa using aA) (txt_fits _ _ _)
  ·rw [decide_eq_false hl]
   repeat' first | refine nx rfl ?_ | refine nf rfl ?_
   refine Am (v, L) ⟨rfl, rfl, rfl, rfl, rfl, trivial⟩ ⟨k16, ?_⟩
   rw [CC, if_neg hl, List.append_nil]
   exact hP
 clear hP k16 fa6
 rintro ⟨v0, L0⟩ w7 f7 ⟨k7, hP7⟩
 simp only at hP7 ⊢
 repeat' first | refine nx rfl ?_ | fail
 have fa7 := fa w7 k7
 (refine AA (AP rfl (AJ rfl (AD rfl ?_))) <;> refine AG rfl (by assumption) ?_ <;> refine Ao rfl (AI rfl ?_))
 repeat' first | refine nx rfl ?_ | fail
 have hhl : (CW s n ++ CC sg f.args.length).length ≤ 2 := by
  rw [List.length_append]
  have : (CC sg f.args.length).length ≤ 1 := by unfold CC; split <;> simp
  omega
 refine BE (α := Nat × Value × List (List Value)) (fun x => [(1, .pointer (some ⟨b, o, none⟩)), (2, .int .i64 (n : Int)), (3, .pointer (some ⟨w.heap.size, 0, none⟩)), (7, x.2.1), (8, AM sg), (39, .int .i64 (f.args.length : Int)), (40, .int .i64 (x.1 : Int))])
  (fun x W => x.1 ≤ f.args.length ∧ Ext w1 W ∧ PS C w1.heap.size x.2.1 x.2.2 (CW s n ++ CC sg f.args.length ++ CE s.first s.next sg (f.args.take x.1)) W) (fun x => f.args.length - x.1)
  (0, v0, L0) ⟨rfl, rfl, rfl, rfl, rfl, rfl, rfl, trivial⟩ ⟨by simp, k7, by simp only [List.take_zero, CE, List.append_nil]; exact hP7⟩ ?_
 clear hP7 k7 fa7
 rintro ⟨k, v8, L8⟩ w8 f8 ⟨hk8, k8, hP8⟩
 simp only at hk8 k8 hP8 ⊢
 repeat' first | refine nx rfl ?_ | fail
 have z8 := k8.size
 by_cases hlt : k < f.args.length
 ·obtain ⟨x, hx⟩ : ∃ x, f.args[k]? = some x := ⟨_, List.getElem?_eq_getElem hlt⟩
  obtain ⟨cx, hcx⟩ : ∃ cx, LA[k]? = some cx := ⟨_, List.getElem?_eq_getElem (by rw [hFA.1]; exact hlt)⟩
  obtain ⟨ba, oa, rfl, hba, hcellx⟩ := hSA.fml hFA.2.1 hcx hlt
  have hpf : ∀ W, Ext w W → PF (fun b => b < C) W ba (oa + k * 5) x := fun W e => ⟨hba, cx, hFA.2.1 cx (List.mem_of_getElem? hcx), hcellx.keep e (by simp), (hFA.2.2 k cx x hcx hx).ext e⟩
  have htk : f.args.take (k + 1) = f.args.take k ++ [x] := by rw [List.take_add_one, hx]; rfl
  have hal := argsP_len s.first s.next sg (f.args.take k)
  have htl : (f.args.take k).length = k := by simp; omega
  have hll : (CW s n ++ CC sg f.args.length ++ CE s.first s.next sg (f.args.take k)).length ≤ 2 + 2 * k := by rw [List.length_append]; omega
  have g2 : ∀ W, Ext w1 W → W.cell? ⟨w.heap.size, 0 + 2, none⟩ = some (.int .i64 (s.first : Int)) := fun W e => (bx W e).cell rfl
  have g3 : ∀ W, Ext w1 W → W.cell? ⟨w.heap.size, 0 + 3, none⟩ = some (.int .i64 (s.next : Int)) := fun W e => (bx W e).cell rfl
  (refine AA ?_ <;> (refine As rfl rfl (fun hc => ?_) (fun hc => ?_) <;> try omega))
  repeat' first | refine nx rfl ?_ | fail
  refine AA (AI rfl (AB (AI rfl ?_)))
  repeat' first | refine nx rfl ?_ | fail
  by_cases hk0 : 0 < k
  ·(refine AA (AI rfl ?_) <;> (refine Bn rfl rfl (fun hc => ?_) (fun hc => ?_) <;> try omega))
   repeat' first | refine nx rfl ?_ | fail
   refine BA (.read 0 (.read 1 (.read 2 (.read 3 (.read 4 (.read 5 (.read 6 (.read 7 (.read 8 (.read 9 (.read 10 (.read 11 (.alt 12 (.alt 13 (.read 14 .done) .stop) .stop))))))))))))) A6 (by kernel_rfl) (fun wd kd ed => ⟨Ext w1, ?_, ?_⟩)
   ·exact k8.trans kd
   have hPd := hP8.ext kd
   have kw := k8.trans kd
   have zd := kw.size
   ((apply D_R rfl rfl; (intro W hW; refine At ?_; exact AE ⟨rfl, rfl, rfl⟩)) <;> (apply D_R rfl rfl; (intro W hW; refine AT rfl ?_; exact AE ⟨rfl, rfl, rfl⟩)) <;> (apply D_R rfl rfl; (intro W hW; refine Ac (by rfl) (by rfl) ?_; exact AE ⟨rfl, rfl, rfl⟩)) <;> (apply D_R rfl rfl; (intro W hW; refine AP rfl ?_; exact AE ⟨rfl, rfl, rfl⟩)) <;> (apply D_R rfl rfl; (intro W hW; refine AJ rfl ?_; exact AE ⟨rfl, rfl, rfl⟩)) <;> (apply D_R rfl rfl; (intro W hW; refine AD rfl ?_; exact AE ⟨rfl, rfl, rfl⟩)) <;> (apply D_R rfl rfl; (intro W hW; refine AG rfl (fa W hW) ?_; exact AE ⟨rfl, rfl, rfl⟩)) <;> (apply D_R rfl rfl; (intro W hW; refine AI rfl ?_; exact AE ⟨rfl, rfl, rfl⟩)) <;> (apply D_R rfl rfl; (intro W hW; refine BP rfl rfl rfl (by omega) ?_; exact AE ⟨rfl, rfl, rfl⟩)) <;> (apply D_R rfl rfl; (intro W hW; refine AD rfl ?_; exact AE ⟨rfl, rfl, rfl⟩)) <;> (apply D_R rfl rfl; (intro W hW; refine AG rfl (g3 W hW) ?_; exact AE ⟨rfl, rfl, rfl⟩)) <;> (apply D_R rfl rfl; (intro W hW; refine Ac (by rfl) (by rfl) ?_; exact AE ⟨rfl, rfl, rfl⟩)))
   refine D_E rfl ?_
   refine AV (out := txtC sg ++ subC ba (oa + k * 5) s.next) rfl (by omega) (by kernel_rfl) (fun wA nA => ?_)
   have rA := nA.own (n := 2) (size := 3) rfl (by decide) (Nat.le_refl _)
   have hoA := hPd.ext nA.keep
   have zA := nA.size
   refine AE ⟨Ext w1, fun _ e => e, kw.trans nA.keep, ?_⟩
   refine D_E rfl ?_
   refine CF (ok := Aw) (v := v8) rfl rfl hoA.own (BC rA fun _ _ => trivial) (by omega) rfl rfl (by intro y hy; simp [txtC, subC] at hy; rcases hy with rfl | rfl | rfl | rfl | rfl | rfl <;> rfl) (by omega) (by omega) (by omega) (fun vB wB aA => ?_)
   have keA : Ext w1 wB := (kw.trans nA.keep).keep aA.keep (fun y hy => (Bb hoA.own (Option.mem_toList.1 hy)).1)
   refine AE ⟨Ext w1, fun _ e => e, keA, ?_⟩
   ((apply D_R rfl rfl; (intro W hW; (refine AB ?_; refine At ?_); exact AE ⟨rfl, rfl, rfl⟩)) <;> refine A0 ?_)
   repeat' first | refine nx rfl ?_ | fail
   (refine AA ?_ <;> refine BD rfl rfl (by first | exact Ah (by omega) (by omega) | exact Aq (by omega) (by omega) | exact Ai (by omega) (by omega)) ?_ <;> refine AI rfl ?_)
   repeat' first | refine nx rfl ?_ | fail
   refine ⟨(k + 1, vB, L8 ++ [txtC sg, subC ba (oa + k * 5) s.next]), ⟨rfl, ⟨rfl, rfl, rfl, rfl, rfl, rfl, ?_, trivial⟩, ⟨by simp only; omega, keA, ?_⟩⟩, by simp only; omega⟩
   ·show Value.int .i64 ((k : Int) + 1) = _
    rw [Int.natCast_add]; rfl
   ·simp only
    have hne : f.args.take k ≠ [] := by
     intro h0
     rw [h0] at htl; simp at htl; omega
    rw [htk, argsP_snoc hne, ← List.append_assoc]
    refine hoA.app (qs := [.txt sg, .sub x s.next]) (M := [txtC sg, subC ba (oa + k * 5) s.next]) (by simpa using aA) ?_
    exact (txt_fits _ _ _).snoc (a := Pc.sub x s.next) ⟨ba, oa + k * 5, rfl, hpf _ (k1.trans (kw.trans nA.keep))⟩
  ·have hk00 : k = 0 := by omega
   subst hk00
   (refine AA (AI rfl ?_) <;> (refine Bn rfl rfl (fun hc => ?_) (fun hc => ?_) <;> try omega))
   repeat' first | refine nx rfl ?_ | refine nf rfl ?_
   refine BA (.read 0 (.read 1 (.read 2 (.read 3 (.read 4 (.read 5 (.read 6 (.read 7 (.read 8 (.read 9 (.alt 10 (.alt 11 (.read 12 .done) .stop) .stop))))))))))) A6 (by kernel_rfl) (fun wd kd ed => ⟨Ext w1, ?_, ?_⟩)
   ·exact k8.trans kd
   have hPd := hP8.ext kd
   have kw := k8.trans kd
   have zd := kw.size
   ((apply D_R rfl rfl; (intro W hW; refine At ?_; exact AE ⟨rfl, rfl, rfl⟩)) <;> (apply D_R rfl rfl; (intro W hW; refine AP rfl ?_; exact AE ⟨rfl, rfl, rfl⟩)) <;> (apply D_R rfl rfl; (intro W hW; refine AJ rfl ?_; exact AE ⟨rfl, rfl, rfl⟩)) <;> (apply D_R rfl rfl; (intro W hW; refine AD rfl ?_; exact AE ⟨rfl, rfl, rfl⟩)) <;> (apply D_R rfl rfl; (intro W hW; refine AG rfl (fa W hW) ?_; exact AE ⟨rfl, rfl, rfl⟩)) <;> (apply D_R rfl rfl; (intro W hW; refine AI rfl ?_; exact AE ⟨rfl, rfl, rfl⟩)) <;> (apply D_R rfl rfl; (intro W hW; refine BP rfl rfl rfl (by omega) ?_; exact AE ⟨rfl, rfl, rfl⟩)) <;> (apply D_R rfl rfl; (intro W hW; refine AD rfl ?_; exact AE ⟨rfl, rfl, rfl⟩)) <;> (apply D_R rfl rfl; (intro W hW; refine AG rfl (g2 W hW) ?_; exact AE ⟨rfl, rfl, rfl⟩)) <;> (apply D_R rfl rfl; (intro W hW; refine Ac (by rfl) (by rfl) ?_; exact AE ⟨rfl, rfl, rfl⟩)))
   refine D_E rfl ?_
   refine AV (out := subC ba (oa + 0 * 5) s.first) rfl (by omega) (by kernel_rfl) (fun wA nA => ?_)
   have rA := nA.own (n := 1) (size := 3) rfl (by decide) (Nat.le_refl _)
   have hoA := hPd.ext nA.keep
   have zA := nA.size
   refine AE ⟨Ext w1, fun _ e => e, kw.trans nA.keep, ?_⟩
   refine D_E rfl ?_
   refine CF (ok := Aw) (v := v8) rfl rfl hoA.own (BC rA fun _ _ => trivial) (by omega) rfl rfl (by intro y hy; simp [txtC, subC] at hy; rcases hy with rfl | rfl | rfl <;> rfl) (by omega) (by omega) (by omega) (fun vB wB aA => ?_)
   have keA : Ext w1 wB := (kw.trans nA.keep).keep aA.keep (fun y hy => (Bb hoA.own (Option.mem_toList.1 hy)).1)
   refine AE ⟨Ext w1, fun _ e => e, keA, ?_⟩
   ((apply D_R rfl rfl; (intro W hW; (refine AB ?_; refine At ?_); exact AE ⟨rfl, rfl, rfl⟩)) <;> refine A0 ?_)
   repeat' first | refine nx rfl ?_ | fail
   (refine AA ?_ <;> refine BD rfl rfl (by first | exact Ah (by omega) (by omega) | exact Aq (by omega) (by omega) | exact Ai (by omega) (by omega)) ?_ <;> refine AI rfl ?_)
   repeat' first | refine nx rfl ?_ | fail
   refine ⟨(0 + 1, vB, L8 ++ [subC ba (oa + 0 * 5) s.first]), ⟨rfl, ⟨rfl, rfl, rfl, rfl, rfl, rfl, rfl, trivial⟩, ⟨by simp only; omega, keA, ?_⟩⟩, by simp only; omega⟩
   simp only
   rw [htk, List.take_zero, List.nil_append]
   rw [List.take_zero] at hoA aA
   simp only [CE, argP, List.append_nil] at hoA aA ⊢
   refine hoA.app (qs := [.sub x s.first]) (M := [subC ba (oa + 0 * 5) s.first]) (by simpa using aA) ?_
   exact RsAt.one (R := pcR) (a := Pc.sub x s.first) ⟨ba, oa + 0 * 5, rfl, hpf _ (k1.trans (kw.trans nA.keep))⟩
 ·have hkk : k = f.args.length := by omega
  subst hkk
  rw [List.take_length] at hP8
  have hal := argsP_len s.first s.next sg f.args
  have hll : (CW s n ++ CC sg f.args.length ++ CE s.first s.next sg f.args).length ≤ 2 + 2 * f.args.length := by rw [List.length_append]; omega
  (refine AA ?_ <;> (refine As rfl rfl (fun hc => ?_) (fun hc => ?_) <;> try omega))
  repeat' first | refine nx rfl ?_ | refine nf rfl ?_
  have l8 : w8.cell? ⟨w.heap.size, 0 + 1, none⟩ = some (.int .i64 (s.level : Int)) := (bx w8 k8).cell rfl
  have epc : pcs s n f = CW s n ++ CC sg f.args.length ++ CE s.first s.next sg f.args ++ Cp s n := by unfold pcs; rw [hsgg]
  by_cases hl : s.level < n
  ·(refine AA (AD rfl ?_) <;> refine AG rfl (by assumption) ?_ <;> refine AI rfl ?_ <;> (refine As rfl rfl (fun hc => ?_) (fun hc => ?_) <;> try omega))
   repeat' first | refine nx rfl ?_ | fail
   (refine AA (At ?_) <;> refine Ac (by rfl) (by rfl) ?_)
   refine AV (out := txtC [41]) rfl (by omega) (by kernel_rfl) (fun w9 n9 => ?_)
   have rA := (n9).own (n := 1) (size := 3) rfl (by decide) (Nat.le_refl _)
   have hoA := (hP8).ext (n9).keep
   have zA := (n9).size
   refine CF (ok := Aw) (v := v8) rfl rfl hoA.own (BC rA fun _ _ => trivial) (by omega) rfl rfl (by intro y hy; simp [txtC, subC] at hy; rcases hy with rfl | rfl | rfl | rfl | rfl | rfl <;> rfl) (by omega) (by omega) (by omega) (fun v9 w10 aA => ?_)
   have keA : Ext w1 w10 := ((k8).trans (n9).keep).keep aA.keep (fun y hy => (Bb hoA.own (Option.mem_toList.1 hy)).1)
   ((refine AB ?_; refine At ?_))
   repeat' first | refine nx rfl ?_ | fail
   refine AA (At (AB (At ?_)))
   repeat' first | refine nx rfl ?_ | fail
   have hfin : PS C w1.heap.size v9 (L8 ++ [txtC [41]]) (pcs s n f) w10 := by
    rw [epc, Cp, if_pos hl]
    exact hoA.app (qs := [.txt [41]]) (M := [txtC [41]]) (by simpa using aA) (txt_fits _ _ _)
   exact AL rfl ⟨k1.trans keA, hnode, _, _, n1.keep.size, hfin⟩
  ·(refine AA (AD rfl ?_) <;> refine AG rfl (by assumption) ?_ <;> refine AI rfl ?_ <;> (refine As rfl rfl (fun hc => ?_) (fun hc => ?_) <;> try omega))
   repeat' first | refine nx rfl ?_ | refine nf rfl ?_
   refine AA (At (AB (At ?_)))
   repeat' first | refine nx rfl ?_ | fail
   have hfin : PS C w1.heap.size v8 L8 (pcs s n f) w8 := by
    rw [epc, Cp, if_neg hl, List.append_nil]
    exact hP8
   exact AL rfl ⟨k1.trans k8, hnode, _, _, n1.keep.size, hfin⟩
end Go.Proofs.YtfcgdbmoncnibaaGreatDoor
namespace Go.Proofs.YtfcgdbmoncnibaaGreatDoor
open Go.RowKit
set_option linter.unusedVariables false
theorem splice_front {d X c : List Value} {k : Nat} : splice (d ++ X) (d.length + k) c = d ++ splice X k c := by
 simp only [splice]
 rw [List.take_length_add_append, Nat.add_assoc, List.drop_length_add_append, List.append_assoc]
theorem splice_row {c rest : List Value} (hc : c.length = 3) : ∀ (M : List (List Value)) (i : Nat), (∀ d ∈ M, d.length = 3) → i < M.length → splice (M.flatten ++ rest) (i * 3) c = (M.set i c).flatten ++ rest
 | [], i, _, h => by simp at h
 | d :: M, 0, hM, _ => by
  have hd := hM d (by simp)
  simp only [splice, List.flatten_cons, List.set_cons_zero, Nat.zero_mul, List.take_zero, List.nil_append, Nat.zero_add, List.append_assoc]
  rw [show c.length = d.length by omega, List.drop_left]
 | d :: M, i + 1, hM, h => by
  have hd := hM d (by simp)
  have ih := splice_row (rest := rest) hc M i (fun x hx => hM x (by simp [hx])) (by simpa using h)
  rw [List.flatten_cons, List.set_cons_succ, List.flatten_cons, List.append_assoc, show (i + 1) * 3 = d.length + i * 3 by rw [hd, Nat.succ_mul]; omega, splice_front, ih, List.append_assoc]
theorem own_rows {w : World} {B e n cap : Nat} {a : Option Addr} {L : List (List Value)} (h : w.ownsRow B e 3 (.slice a n cap) n L.flatten) (hn : 0 < n) :
  ∃ g rest, a = some ⟨g, 0, none⟩ ∧ B ≤ g ∧ Blk w g e (L.flatten ++ rest) ∧ ∀ (W : World) (M : List (List Value)), Blk W g e (M.flatten ++ rest) → M.flatten.length = L.flatten.length → W.ownsRow B e 3 (.slice a n cap) n M.flatten := by
 obtain ⟨hl, hv⟩ := h
 rcases hv with ⟨_, rfl⟩ | ⟨g, cap', cur, hv, hB, hg, h1, h2, h3, h4⟩
 ·omega
 ·cases hv
  refine ⟨g, cur.toList.drop (n * 3), rfl, hB, ?_, fun W M hb hm => ⟨by rw [hm]; exact hl, .inr ⟨g, cap, (M.flatten ++ cur.toList.drop (n * 3)).toArray, rfl, hB, hb, h1, h2, ?_, ?_⟩⟩⟩
  ·rw [← h4, List.take_append_drop]
   simpa [Blk] using hg
  ·have : cur.toList.length = cur.size := by simp
   have hle : n * 3 ≤ cur.toList.length := by
    have := congrArg List.length h4
    rw [List.length_take, hl] at this; omega
   simp only [List.size_toArray, List.length_append, List.length_drop]
   rw [hm, hl]; omega
  ·rw [show n * 3 = M.flatten.length by rw [hm, hl]]
   simp
theorem row_cells {w : World} {g : Nat} {T : TypeId} {M : List (List Value)} {rest : List Value} (h : Blk w g T (M.flatten ++ rest)) (hM : ∀ d ∈ M, d.length = 3) {i : Nat} {c : List Value} (hc : M[i]? = some c) : Cells w g (0 + i * 3) c := by
 intro j u hu
 have h1 := C2 3 M i j c u hM hc hu
 have hlt := (List.getElem?_eq_some_iff.1 h1).1
 have := h.cells (i * 3 + j) u (by rw [List.getElem?_append_left hlt]; exact h1)
 rw [show 0 + i * 3 + j = 0 + (i * 3 + j) by omega]
 exact this
def RevK (L M : List (List Value)) (k : Nat) : Prop := M.length = L.length ∧ ∀ x, x < L.length → M[x]? = if x < k ∨ L.length ≤ x + k then L[L.length - 1 - x]? else L[x]?
theorem RevK.done {L M : List (List Value)} {k : Nat} (h : RevK L M k) (h2 : L.length ≤ 2 * k + 1) : M = L.reverse := by
 refine List.ext_getElem? fun x => ?_
 by_cases hx : x < L.length
 ·rw [h.2 x hx, List.getElem?_reverse hx]
  split
  ·rfl
  ·rw [show L.length - 1 - x = x by omega]
 ·rw [List.getElem?_eq_none (by rw [h.1]; omega), List.getElem?_eq_none (by simp; omega)]
theorem RevK.step {L M : List (List Value)} {k : Nat} {c d : List Value} (h : RevK L M k) (h2 : 2 * k + 1 < L.length) (hc : L[k]? = some c) (hd : L[L.length - 1 - k]? = some d) : RevK L ((M.set k d).set (L.length - 1 - k) c) (k + 1) := by
 refine ⟨by simp [h.1], fun x hx => ?_⟩
 by_cases h1 : x = L.length - 1 - k
 ·subst h1
  rw [List.getElem?_set_self (by simp [h.1]; omega), if_pos (by omega)]
  rw [show L.length - 1 - (L.length - 1 - k) = k by omega, hc]
 ·rw [List.getElem?_set_ne (Ne.symm h1)]
  by_cases h3 : x = k
  ·subst h3
   rw [List.getElem?_set_self (by rw [h.1]; omega), if_pos (by omega), hd]
  ·rw [List.getElem?_set_ne (Ne.symm h3), h.2 x hx]
   by_cases h4 : x < k ∨ L.length ≤ x + k
   ·rw [if_pos h4, if_pos (by omega)]
   ·rw [if_neg h4, if_neg (by omega)]
set_option maxHeartbeats 1600000 in
theorem reverse_ok (w : World) (C B : Nat) (v : Value) (L : List (List Value)) (ps : List Pc) (h : PS C B v L ps w) :
  Fn Tryz.prog 78 [v] w fun _ w' => PS C B v L.reverse ps.reverse w' ∧ Keep v.ownBlock.toList w w' := by
 obtain ⟨a, cp, rfl⟩ := h.form
 have hLl : L.length = ps.length := h.rs.1
 have hL3 : ∀ d ∈ L, d.length = 3 := h.rs.len
 have hrev : ∀ W, Keep (Value.slice a ps.length cp).ownBlock.toList w W → RsAt pcR (fun b => b < C) W L.reverse ps.reverse := fun W k => by
  have hX : ∀ b, b < C → b ∉ (Value.slice a ps.length cp).ownBlock.toList := fun b hb hx => by
   have := (Bb h.own (Option.mem_toList.1 hx)).1; have := h.le; omega
  have F := h.rs.keep k hX
  refine ⟨by simp [hLl], fun i c p hc hp => ?_⟩
  have hi : i < L.length := by have := (List.getElem?_eq_some_iff.1 hc).1; simpa using this
  rw [List.getElem?_reverse hi] at hc
  rw [List.getElem?_reverse (by omega), ← hLl] at hp
  exact F.2 _ c p hc hp
 refine Aa Tryz.func78 rfl Tryz.ntmps78 (Nat.le_of_ble_eq_true rfl) (by kernel_rfl) ?_
 repeat' first | refine nx rfl ?_ | fail
 have hmax : ps.length ≤ 9223372036854775807 := by
  obtain ⟨_, hv⟩ := h.own
  rcases hv with ⟨_, h0⟩ | ⟨g, cap', cur, hv, hB, hg, h1, h2, h3, h4⟩
  ·omega
  ·cases hv; simp only [maxLen] at h2; omega
 (refine AA (Ak rfl (Ao rfl ?_)) <;> refine W_sub rfl rfl (by first | exact Ah (by omega) (by omega) | exact Aq (by omega) (by omega) | exact Ai (by omega) (by omega)) ?_ <;> refine AB (AI rfl (AB (AI rfl ?_))))
 repeat' first | refine nx rfl ?_ | fail
 by_cases hn : ps.length = 0
 ·have hp0 : ps = [] := List.length_eq_zero_iff.1 hn
  have hL0 : L = [] := List.length_eq_zero_iff.1 (by omega)
  refine BE (α := Unit) (fun _ => [(2, .int .i64 0), (3, .int .i64 (-1))]) (fun _ W => W = w) (fun _ => 0) () ⟨rfl, congrArg (Value.int .i64) (by rw [hn]; rfl), trivial⟩ rfl ?_
  rintro _ W f1 rfl
  repeat' first | refine nx rfl ?_ | fail
  (refine AA (AI rfl (AI rfl ?_)) <;> (refine As rfl rfl (fun hc => ?_) (fun hc => ?_) <;> try omega))
  repeat' first | refine nx rfl ?_ | refine nf rfl ?_
  refine Au rfl ⟨?_, Keep.refl _ _⟩
  subst hp0; subst hL0
  exact h
 ·obtain ⟨g, rest, rfl, hBg, hblk, hback⟩ := own_rows h.own (by omega)
  refine BE (α := Nat × List (List Value)) (fun x => [(0, .slice (some ⟨g, 0, none⟩) ps.length cp), (2, .int .i64 (x.1 : Int)), (3, .int .i64 ((ps.length : Int) - 1 - (x.1 : Int)))])
   (fun x W => 2 * x.1 ≤ ps.length ∧ Keep [g] w W ∧ Blk W g 125 (x.2.flatten ++ rest) ∧ (∀ d ∈ x.2, d.length = 3) ∧ RevK L x.2 x.1) (fun x => ps.length - x.1) (0, L) ⟨rfl, rfl, congrArg (Value.int .i64) (by simp), trivial⟩
   ⟨by simp, Keep.refl _ _, hblk, hL3, rfl, fun x hx => by rw [if_neg (by simp only; omega)]⟩ ?_
  rintro ⟨k, M⟩ w1 f1 ⟨hk, k1, b1, hM3, hR⟩
  simp only at hk k1 b1 hM3 hR ⊢
  repeat' first | refine nx rfl ?_ | fail
  by_cases hlt : 2 * k + 1 < ps.length
  ·obtain ⟨c, hcL⟩ : ∃ c, L[k]? = some c := ⟨_, List.getElem?_eq_getElem (by omega)⟩
   obtain ⟨d, hd⟩ : ∃ d, L[L.length - 1 - k]? = some d := ⟨_, List.getElem?_eq_getElem (by omega)⟩
   have hMc : M[k]? = some c := by rw [hR.2 k (by omega), if_neg (by omega)]; exact hcL
   have hMd : M[ps.length - 1 - k]? = some d := by
    rw [hR.2 _ (by omega), if_neg (by omega), ← hLl]; exact hd
   have c3 := hL3 c (List.mem_of_getElem? hcL)
   have d3 := hL3 d (List.mem_of_getElem? hd)
   have ej : (ps.length : Int) - 1 - (k : Int) = ((ps.length - 1 - k : Nat) : Int) := by omega
   rw [ej]
   (refine AA (AI rfl (AI rfl ?_)) <;> (refine As rfl rfl (fun hc => ?_) (fun hc => ?_) <;> try omega))
   repeat' first | refine nx rfl ?_ | fail
   refine BA (.read 0 (.read 1 (.read 2 (.read 3 (.read 4 (.read 5 (.read 6 (.read 8 (.read 9 (.read 10 (.alt 7 (.alt 11 (.read 12 (.alt 13 (.read 14 (.alt 15 .done .stop)) .stop)) .stop) (.alt 11 (.alt 7 (.read 12 (.alt 13 (.read 14 (.alt 15 .done .stop)) .stop)) .stop) .stop)))))))))))) A6 (by kernel_rfl) (fun wd kd ed => ⟨fun _ => True, ?_, ?_⟩)
   ·trivial
   have bd := b1.keep kd (by simp)
   have oc : oneC c := by
    obtain ⟨p, hp⟩ : ∃ p, ps[k]? = some p := ⟨_, List.getElem?_eq_getElem (by omega)⟩
    exact pcR.one (h.rs.2 _ c p hcL hp)
   have od : oneC d := by
    obtain ⟨p, hp⟩ : ∃ p, ps[L.length - 1 - k]? = some p := ⟨_, List.getElem?_eq_getElem (by omega)⟩
    exact pcR.one (h.rs.2 _ d p hd hp)
   have hML : M.length = ps.length := by rw [hR.1, hLl]
   have hflat : (M.flatten ++ rest).length ≥ ps.length * 3 := by
    rw [List.length_append, flat_len 3 _ hM3, hML]; omega
   ((apply D_R rfl rfl; (intro W hW; refine Ak rfl ?_; exact AE ⟨rfl, rfl, rfl⟩)) <;> (apply D_R rfl rfl; (intro W hW; refine AI rfl ?_; exact AE ⟨rfl, rfl, rfl⟩)) <;> (apply D_R rfl rfl; (intro W hW; refine Ak rfl ?_; exact AE ⟨rfl, rfl, rfl⟩)) <;> (apply D_R rfl rfl; (intro W hW; refine AI rfl ?_; exact AE ⟨rfl, rfl, rfl⟩)) <;> (apply D_R rfl rfl; (intro W hW; refine Ak rfl ?_; exact AE ⟨rfl, rfl, rfl⟩)) <;> (apply D_R rfl rfl; (intro W hW; refine AI rfl ?_; exact AE ⟨rfl, rfl, rfl⟩)) <;> (apply D_R rfl rfl; (intro W hW; refine BP rfl rfl rfl (by omega) ?_; exact AE ⟨rfl, rfl, rfl⟩)) <;> (apply D_R rfl rfl; (intro W hW; refine Ak rfl ?_; exact AE ⟨rfl, rfl, rfl⟩)) <;> (apply D_R rfl rfl; (intro W hW; refine AI rfl ?_; exact AE ⟨rfl, rfl, rfl⟩)) <;> (apply D_R rfl rfl; (intro W hW; refine BP rfl rfl rfl (by omega) ?_; exact AE ⟨rfl, rfl, rfl⟩)))
   refine D_A rfl ?_ (D_E rfl ?_)
   ·refine AU rfl d3 (row_cells bd hM3 hMd) ?_
    refine AE ⟨_, fun _ h => h, trivial, ?_⟩
    refine D_E rfl ?_
    refine AU rfl c3 (row_cells bd hM3 hMc) ?_
    refine AE ⟨_, fun _ h => h, trivial, ?_⟩
    (apply D_R rfl rfl; (intro W hW; refine BP (k := k) rfl rfl rfl (by omega) ?_; exact AE ⟨rfl, rfl, rfl⟩))
    refine D_E rfl ?_
    refine Ad (cs := d) rfl rfl d3 od bd (by omega) (fun w2 p2 => ?_)
    have b2 := p2.blk
    rw [Nat.zero_add, splice_row d3 M k hM3 (by omega)] at b2
    have hM3' : ∀ x ∈ M.set k d, x.length = 3 := fun x hx => by
     rcases List.mem_or_eq_of_mem_set hx with hx | rfl
     ·exact hM3 x hx
     ·exact d3
    refine AE ⟨_, fun _ h => h, trivial, ?_⟩
    (apply D_R rfl rfl; (intro W hW; refine BP (k := ps.length - 1 - k) rfl rfl rfl (by omega) ?_; exact AE ⟨rfl, rfl, rfl⟩))
    refine D_E rfl ?_
    refine Ad (cs := c) rfl rfl c3 oc b2 (by rw [List.length_append, flat_len 3 _ hM3', List.length_set, hML]; omega) (fun w3 p3 => ?_)
    have b3 := p3.blk
    rw [Nat.zero_add, splice_row c3 (M.set k d) (ps.length - 1 - k) hM3' (by rw [List.length_set]; omega)] at b3
    have hM3'' : ∀ x ∈ (M.set k d).set (ps.length - 1 - k) c, x.length = 3 := fun x hx => by
     rcases List.mem_or_eq_of_mem_set hx with hx | rfl
     ·exact hM3' x hx
     ·exact c3
    refine AE ⟨_, fun _ h => h, trivial, ?_⟩
    refine A0 ?_
    repeat' first | refine nx rfl ?_ | fail
    (refine AA (AI rfl ?_) <;> refine BD rfl rfl (by first | exact Ah (by omega) (by omega) | exact Aq (by omega) (by omega) | exact Ai (by omega) (by omega)) ?_ <;> refine AI rfl ?_ <;> refine W_sub rfl rfl (by first | exact Ah (by omega) (by omega) | exact Aq (by omega) (by omega) | exact Ai (by omega) (by omega)) ?_ <;> refine AB (AI rfl (AB (AI rfl ?_))))
    repeat' first | refine nx rfl ?_ | fail
    refine ⟨(k + 1, (M.set k d).set (ps.length - 1 - k) c), ⟨rfl, ⟨rfl, ?_, ?_, trivial⟩, ⟨by simp only; omega, ((k1.ext kd).trans p2.keep (by simp)).trans p3.keep (by simp), b3, hM3'', ?_⟩⟩, by simp only; omega⟩
    ·show Value.int .i64 ((k : Int) + 1) = _
     rw [Int.natCast_add]; rfl
    ·refine congrArg (Value.int .i64) ?_
     show ((ps.length - 1 - k : Nat) : Int) - 1 = (ps.length : Int) - 1 - ((k + 1 : Nat) : Int)
     omega
    ·simp only
     rw [← hLl]
     exact hR.step (by omega) hcL hd
   ·refine AU rfl c3 (row_cells bd hM3 hMc) ?_
    refine AE ⟨_, fun _ h => h, trivial, ?_⟩
    refine D_E rfl ?_
    refine AU rfl d3 (row_cells bd hM3 hMd) ?_
    refine AE ⟨_, fun _ h => h, trivial, ?_⟩
    (apply D_R rfl rfl; (intro W hW; refine BP (k := k) rfl rfl rfl (by omega) ?_; exact AE ⟨rfl, rfl, rfl⟩))
    refine D_E rfl ?_
    refine Ad (cs := d) rfl rfl d3 od bd (by omega) (fun w2 p2 => ?_)
    have b2 := p2.blk
    rw [Nat.zero_add, splice_row d3 M k hM3 (by omega)] at b2
    have hM3' : ∀ x ∈ M.set k d, x.length = 3 := fun x hx => by
     rcases List.mem_or_eq_of_mem_set hx with hx | rfl
     ·exact hM3 x hx
     ·exact d3
    refine AE ⟨_, fun _ h => h, trivial, ?_⟩
    (apply D_R rfl rfl; (intro W hW; refine BP (k := ps.length - 1 - k) rfl rfl rfl (by omega) ?_; exact AE ⟨rfl, rfl, rfl⟩))
    refine D_E rfl ?_
    refine Ad (cs := c) rfl rfl c3 oc b2 (by rw [List.length_append, flat_len 3 _ hM3', List.length_set, hML]; omega) (fun w3 p3 => ?_)
    have b3 := p3.blk
    rw [Nat.zero_add, splice_row c3 (M.set k d) (ps.length - 1 - k) hM3' (by rw [List.length_set]; omega)] at b3
    have hM3'' : ∀ x ∈ (M.set k d).set (ps.length - 1 - k) c, x.length = 3 := fun x hx => by
     rcases List.mem_or_eq_of_mem_set hx with hx | rfl
     ·exact hM3' x hx
     ·exact c3
    refine AE ⟨_, fun _ h => h, trivial, ?_⟩
    refine A0 ?_
    repeat' first | refine nx rfl ?_ | fail
    (refine AA (AI rfl ?_) <;> refine BD rfl rfl (by first | exact Ah (by omega) (by omega) | exact Aq (by omega) (by omega) | exact Ai (by omega) (by omega)) ?_ <;> refine AI rfl ?_ <;> refine W_sub rfl rfl (by first | exact Ah (by omega) (by omega) | exact Aq (by omega) (by omega) | exact Ai (by omega) (by omega)) ?_ <;> refine AB (AI rfl (AB (AI rfl ?_))))
    repeat' first | refine nx rfl ?_ | fail
    refine ⟨(k + 1, (M.set k d).set (ps.length - 1 - k) c), ⟨rfl, ⟨rfl, ?_, ?_, trivial⟩, ⟨by simp only; omega, ((k1.ext kd).trans p2.keep (by simp)).trans p3.keep (by simp), b3, hM3'', ?_⟩⟩, by simp only; omega⟩
    ·show Value.int .i64 ((k : Int) + 1) = _
     rw [Int.natCast_add]; rfl
    ·refine congrArg (Value.int .i64) ?_
     show ((ps.length - 1 - k : Nat) : Int) - 1 = (ps.length : Int) - 1 - ((k + 1 : Nat) : Int)
     omega
    ·simp only
     rw [← hLl]
     exact hR.step (by omega) hcL hd
  ·(refine AA (AI rfl (AI rfl ?_)) <;> (refine As rfl rfl (fun hc => ?_) (fun hc => ?_) <;> try omega))
   repeat' first | refine nx rfl ?_ | refine nf rfl ?_
   have e := hR.done (by omega)
   subst e
   have kw : Keep (Value.slice (some ⟨g, 0, none⟩) ps.length cp).ownBlock.toList w w1 := k1.mono (by simp [Value.ownBlock])
   refine Au rfl ⟨⟨?_, hrev _ kw, h.le⟩, kw⟩
   rw [List.length_reverse]
   exact hback w1 _ b1 (by rw [flat_len 3 _ hM3, flat_len 3 _ hL3, List.length_reverse])
end Go.Proofs.YtfcgdbmoncnibaaGreatDoor
namespace Go.Proofs.YtfcgdbmoncnibaaGreatDoor
open Go.RowKit
set_option linter.unusedVariables false
variable {mk : Prop} [MK mk]
section
attribute [local semireducible] WC AX Bk BG Bc Cb Cv Bd
variable {P : Program} {all : Array Oper} {Z : Fr → DS → List PanicEntry → World → Prop} {K : Fr → DS → World → Prop} {rest : List Oper} {f : Fr} {ds : DS} {w : World} {d : Nat} {ty : TypeId} {pos : String} {af : Array Edge}
class PtrT (P : Program) (T : TypeId) (e : outParam TypeId) : Prop where
 und : P.underlying T = some (.pointer e)
 info : ∃ j, P.info? e = some j ∧ j.size ≠ 0
theorem ptrT_of {T e : TypeId} (h : P.underlying T = some (.pointer e)) (h2 : ((P.info? e).map fun j => decide (j.size ≠ 0)) = some true) : PtrT P T e := by
 obtain ⟨j, hj, h3⟩ := Option.map_eq_some_iff.1 h2
 exact ⟨h, j, hj, by simpa using h3⟩
theorem run_eql_none {T e : TypeId} (hT : P.underlying T = some (.pointer e)) : (binOp .eql T (.pointer none) (.pointer none)).run P w = .ok (.bool true) w := by
 have h : ∀ d : Nat, (Op.equalIn (d + 1) T (.pointer none) (.pointer none)).run P w = .ok true w := fun d => by
  simp [Op.equalIn, run_underlying hT]
 simp only [binOp]
 simp [Op.equal, Op.maxDepth, h 9999]
theorem run_eql_some {T e : TypeId} (hT : P.underlying T = some (.pointer e)) (a : Addr) : (binOp .eql T (.pointer (some a)) (.pointer none)).run P w = .ok (.bool false) w := by
 have h : ∀ d : Nat, (Op.equalIn (d + 1) T (.pointer (some a)) (.pointer none)).run P w = .ok false w := fun d => by
  simp [Op.equalIn, run_underlying hT]
 simp only [binOp]
 simp [Op.equal, Op.maxDepth, h 9999]
theorem W_ptrNil {T yt e : TypeId} {x : Operand} {p : Option Addr} [hT : PtrT P T e] (hx : ev f x = .pointer p) (h : AX P all Z K rest (upd f d (.bool p.isNone)) ds w) :
  AX P all Z K (⟨some d, .binOp .eql T x (.const (.pointer none)) yt, ty, pos, af, none⟩ :: rest) f ds w := by
 refine Ay rfl ?_ h
 have hy : ev f (.const (.pointer none)) = .pointer none := rfl
 cases p with
 | none => simp [execOp, hx, hy, eqGuard, run_eql_none hT.und]
 | some a => simp [execOp, hx, hy, eqGuard, run_eql_some hT.und]
theorem W_ptrNeqSame {T yt e : TypeId} {x y : Operand} {a : Addr} [hT : PtrT P T e] (hx : ev f x = .pointer (some a)) (hy : ev f y = .pointer (some a)) (h : AX P all Z K rest (upd f d (.bool false)) ds w) :
  AX P all Z K (⟨some d, .binOp .neq T x y yt, ty, pos, af, none⟩ :: rest) f ds w := by
 refine Ay rfl ?_ h
 obtain ⟨j, hj, _⟩ := hT.info
 simp [execOp, hx, hy, eqGuard, Lib.run_neq_ptr_same w a hT.und hj]
end
instance : PtrT Tryz.prog 76 24 := ptrT_of Tryz.underlying76 (by kernel_rfl)
end Go.Proofs.YtfcgdbmoncnibaaGreatDoor
namespace Go.Proofs.YtfcgdbmoncnibaaGreatDoor
open Go.RowKit
set_option linter.unusedVariables false
section
attribute [local semireducible] WC AX Bk BG Bc Cb Cv Bd
variable {P : Program} {all : Array Oper} {Z : Fr → DS → List PanicEntry → World → Prop} {K : Fr → DS → World → Prop} {rest : List Oper} {f : Fr} {ds : DS} {w : World} {d : Nat} {ty : TypeId} {pos : String} {af : Array Edge}
theorem blk_shape {b : Nat} {T : TypeId} {L : List Value} (h : Blk w b T L) : w.shape? b = some (T, L.length) := by
 have h : w.heap[b]? = some (.cells L.toArray T (0, 0)) := h
 simp [World.shape?, h]
theorem W_toUnsafe {S D e bt : TypeId} {x : Operand} {b : Nat} {L : List Value} [hT : PtrT P S e] (hD : P.underlying D = some .unsafePointer) (hx : ev f x = .pointer (some ⟨b, 0, none⟩)) (hb : Blk w b bt L) (hl : 0 < L.length)
  (h : AX P all Z K rest (upd f d (.pointer (some ⟨b, 0, none⟩))) ds w) : AX P all Z K (⟨some d, .convert S D x, ty, pos, af, none⟩ :: rest) f ds w := by
 refine Ay rfl ?_ h
 obtain ⟨j, hj, hs⟩ := hT.info
 have hr := Lib.run_to_unsafe w ⟨b, 0, none⟩ hT.und hD hj hs (blk_shape hb) hl
 simp [execOp, hx, hr]
theorem W_fromUnsafe {S D e bt : TypeId} {x : Operand} {b : Nat} {L : List Value} [hT : PtrT P D e] (hS : P.underlying S = some .unsafePointer) (hx : ev f x = .pointer (some ⟨b, 0, none⟩)) (hb : Blk w b bt L) (hlies : liesAt P P.depth bt (L.length / P.cellsOf bt) 0 e 1 = true)
  (h : AX P all Z K rest (upd f d (.pointer (some ⟨b, 0, none⟩))) ds w) : AX P all Z K (⟨some d, .convert S D x, ty, pos, af, none⟩ :: rest) f ds w := by
 refine Ay rfl ?_ h
 obtain ⟨j, hj, hs⟩ := hT.info
 have hr := Lib.run_from_unsafe w ⟨b, 0, none⟩ hS hT.und hj (blk_shape hb) hlies
 simp [execOp, hx, hr]
theorem W_extern {g : FuncId} {xs : List Operand} {ats : Array TypeId} {vs : List Value} {v : Value} (hg : ∀ w, (callFunc g vs.toArray).run P w = .ok (.value v) w) (ha : evL f xs = vs) (h : AX P all Z K rest (upd f d v) ds w) :
  AX P all Z K (⟨some d, .call ⟨.value (.func g), xs.toArray, ats⟩, ty, pos, af, none⟩ :: rest) f ds w := by
 refine Ay rfl ?_ h
 rw [evL_map] at ha
 have e : Array.map (ev f) xs.toArray = vs.toArray := by rw [← ha]; simp
 have hg' := hg w
 rw [← e] at hg'
 simp only [execOp, resolve, ev, Deferred.ofValue, Sem.run_bind, Sem.run_pure, Result.andThen_ok]
 simp [invoke] at hg' ⊢
 rw [hg']
theorem W_appendS {T S e : TypeId} {s x : Operand} {B n : Nat} {v : Value} {xs : List Value} {t : List UInt8} [hT : SlT P T e 1 1 (.int .u8 0)] (hS : P.underlying S = some .string) (hv : ev f s = v) (hx : ev f x = AM t)
  (hown : w.ownsRow B e 1 v n xs) (hb : n + t.length ≤ 140737488355328) (hB : B ≤ w.heap.size)
  (h : ∀ v' w', w'.ownsRow B e 1 v' (n + t.length) (xs ++ CS t) → Keep v.ownBlock.toList w w' → (v'.ownBlock = v.ownBlock ∨ ∀ y, v'.ownBlock = some y → w.heap.size ≤ y) → (v' = .slice none 0 0 ∨ v ≠ .slice none 0 0 ∨ t ≠ []) → AX P all Z K rest (upd f d v') ds w') :
  AX P all Z K (⟨some d, .call ⟨.builtin .append, #[s, x], #[T, S]⟩, ty, pos, af, none⟩ :: rest) f ds w := by
 obtain ⟨i, hi, hz, hsi, hby⟩ := hT.out
 have hsz : (⟨t.toArray⟩ : ByteArray).size = t.length := rfl
 have h63 : n + (⟨t.toArray⟩ : ByteArray).size ≤ maxLen := by rw [hsz]; simp only [maxLen]; omega
 obtain ⟨v', w', hr, ho, hg, hnil⟩ := Lib.run_append_own_string (P := P) w B T S ty e i hT.und hS hi hz hsi hby v n xs hown ⟨t.toArray⟩ h63 (by rw [hsz]; exact hb) hB
 have hblk : v'.ownBlock = v.ownBlock ∨ ∀ y, v'.ownBlock = some y → w.heap.size ≤ y := by
  rcases hown.2 with ⟨rfl, h0⟩ | ⟨g, cap, cur, rfl, hbg, hg, hnc, hcm, hcs, htake⟩
  ·obtain ⟨v2, w2, hr2, ho2, _, _⟩ := Lib.run_append_own_string (P := P) w w.heap.size T S ty e i hT.und hS hi hz hsi hby _ n xs ⟨hown.1, .inl ⟨rfl, h0⟩⟩ ⟨t.toArray⟩ h63 (by rw [hsz]; exact hb) (Nat.le_refl _)
   rw [hr] at hr2
   injection hr2 with e1 e2
   subst e1; subst e2
   refine .inr fun y hy => ?_
   rcases ho2.2 with ⟨rfl, _⟩ | ⟨g, cap, cur, rfl, hbg, _⟩
   ·cases hy
   ·cases hy; exact hbg
  ·have hcs' : cur.size = cap := by simpa using hcs
   by_cases hroom : n + (⟨t.toArray⟩ : ByteArray).size ≤ cap
   ·have hr2 := Lib.run_append_room_string (P := P) w T S ty e i hT.und hS hi hsi g n cap cur hg ⟨t.toArray⟩ hroom (by omega)
    rw [hr] at hr2
    injection hr2 with e1 e2
    exact .inl (by rw [e1]; rfl)
   ·have holds : ∀ j u, xs[j]? = some u → w.cell? ((⟨g, 0, none⟩ : Addr).add j) = some u := hown.cells (g := g) rfl
    have hr2 := Lib.run_append_grow_string (P := P) w T S ty e i (.int .u8 0) hT.und hS hi hz ⟨g, 0, none⟩ n cap xs (by rw [hsi]; exact hown.1) holds ⟨t.toArray⟩ (by omega) (by rw [hsz]; omega) (by rw [hby]; exact growslice_fits (by omega) (by rw [hsz]; omega))
    rw [hr] at hr2
    injection hr2 with e1 e2
    refine .inr fun y hy => ?_
    rw [e1] at hy
    cases hy; exact Nat.le_refl _
 refine Ay (v := v') (w' := w') rfl ?_ (h v' w' ?_ (Keep.of_grown hg fun h => h.elim) hblk ?_)
 ·simp [execOp, resolve, invoke, builtin, hv, hx, hr]
 ·have e1 : Lib.strCells ⟨t.toArray⟩ = CS t := by simp [Lib.strCells, CS, enc8]
  rw [← e1]; exact ho
 ·by_cases h1 : v' = .slice none 0 0
  ·exact .inl h1
  ·by_cases h2 : v = .slice none 0 0
   ·refine .inr (.inr fun h3 => h1 (hnil.2 ⟨h2, ?_⟩))
    rw [hsz, h3]; rfl
   ·exact .inr (.inl h2)
theorem W_sliceDataNil {T : TypeId} {s : Operand} {n c : Nat} (hv : ev f s = .slice none n c) (h : AX P all Z K rest (upd f d (.pointer none)) ds w) :
  AX P all Z K (⟨some d, .call ⟨.builtin .unsafeSliceData, #[s], #[T]⟩, ty, pos, af, none⟩ :: rest) f ds w := by
 refine Ay rfl ?_ h
 simp [execOp, resolve, invoke, builtin, hv, Lib.run_unsafeSliceData_nil]
theorem W_sliceData {T : TypeId} {s : Operand} {a : Addr} {n c : Nat} (hv : ev f s = .slice (some a) n c) (hc : c ≠ 0) (h : AX P all Z K rest (upd f d (.pointer (some a))) ds w) :
  AX P all Z K (⟨some d, .call ⟨.builtin .unsafeSliceData, #[s], #[T]⟩, ty, pos, af, none⟩ :: rest) f ds w := by
 refine Ay rfl ?_ h
 simp [execOp, resolve, invoke, builtin, hv, Lib.run_unsafeSliceData_row w _ _ a n c hc]
theorem W_unsafeStrNil {T S : TypeId} {s x : Operand} {p : Option Addr} (hv : ev f s = .pointer p) (hx : ev f x = .int .i64 0) (h : AX P all Z K rest (upd f d (AM [])) ds w) :
  AX P all Z K (⟨some d, .call ⟨.builtin .unsafeString, #[s, x], #[T, S]⟩, ty, pos, af, none⟩ :: rest) f ds w := by
 refine Ay rfl ?_ h
 simp [execOp, resolve, invoke, builtin, hv, hx, Lib.run_unsafeString_none]
 rfl
theorem W_unsafeStr {T S e : TypeId} {s x : Operand} {g : Nat} {t : List UInt8} {cur : List Value} (hp : P.underlying T = some (.pointer e)) (h1 : P.cellsOf e = 1) (hv : ev f s = .pointer (some ⟨g, 0, none⟩)) (hx : ev f x = .int .i64 (t.length : Int))
  (ht : t ≠ []) (hb : Blk w g e cur) (hl : t.length ≤ cur.length) (h63 : t.length ≤ 9223372036854775807) (hc : cur.take t.length = CS t) (h : ∀ w', Keep [g] w w' → AX P all Z K rest (upd f d (AM t)) ds w') :
  AX P all Z K (⟨some d, .call ⟨.builtin .unsafeString, #[s, x], #[T, S]⟩, ty, pos, af, none⟩ :: rest) f ds w := by
 have hcell : ∀ j y, t[j]? = some y → w.cell? ((⟨g, 0, none⟩ : Addr).add j) = some (.int .u8 y.toNat) := by
  intro j y hy
  have hj := (List.getElem?_eq_some_iff.1 hy).1
  have e1 : (CS t)[j]? = some (enc8 y) := by simp [CS, hy]
  rw [← hc, List.getElem?_take_of_lt hj] at e1
  have h3 := hb.cells j _ e1
  rw [Nat.zero_add] at h3
  rw [Addr.add_lit, Nat.zero_add]
  exact h3
 have hr := Lib.run_unsafeString_row (P := P) w T S ty e hp h1 g cur.length (blk_shape hb) t ht hl h63 hcell
 have k : Keep [g] w (w.freeze ⟨g, 0, none⟩ t.length) := by
  unfold World.freeze
  split
  ·exact Keep.refl _ _
  ·refine ⟨rfl, rfl, rfl, by simp, fun b hb hx => ?_, fun h => h.elim⟩
   simp only [Array.getElem?_modify]
   rw [if_neg (fun e => hx (by simp [e]))]
 refine Ay rfl ?_ (h _ k)
 simp [execOp, resolve, invoke, builtin, hv, hx, hr]
end
theorem noEsc_run (v : Value) (w : World) : (callFunc 160 #[v]).run Tryz.prog w = .ok (.value v) w := by
 rw [run_callFunc_extern Tryz.func160 (by kernel_rfl) (by kernel_rfl) (by kernel_rfl) (e := Extern.AbiNoEscape.same) (by kernel_rfl)]
 rfl
instance : PtrT Tryz.prog 115 118 := ptrT_of Tryz.underlying115 (by kernel_rfl)
end Go.Proofs.YtfcgdbmoncnibaaGreatDoor
namespace Go.Proofs.YtfcgdbmoncnibaaGreatDoor
open Go.RowKit
set_option linter.unusedVariables false
structure WrB (W : World) (p : Nat) (v : Value) (t : List UInt8) : Prop where
 blk : ∃ a, (a = none ∨ a = some ⟨p, 0, none⟩) ∧ Blk W p 120 [.pointer a, v]
 own : W.ownsRow (p + 1) 5 1 v t.length (CS t)
 nz : v = .slice none 0 0 ∨ t ≠ []
structure Wrote (p : Nat) (v v' : Value) (w w' : World) : Prop where
 keep : Keep (p :: v.ownBlock.toList) w w'
 blk : ∀ y, v'.ownBlock = some y → v.ownBlock = some y ∨ w.heap.size ≤ y
theorem Wrote.refl (p : Nat) (v : Value) (w : World) : Wrote p v v w w := ⟨Keep.refl _ _, fun _ h => .inl h⟩
theorem Wrote.trans {p : Nat} {v v' v'' : Value} {a b c : World} (h : Wrote p v v' a b) (k : Wrote p v' v'' b c) : Wrote p v v'' a c := by
 refine ⟨h.keep.trans k.keep fun x hx hlt => ?_, fun y hy => ?_⟩
 ·rcases List.mem_cons.1 hx with rfl | hx
  ·simp
  ·rcases h.blk x (Option.mem_toList.1 hx) with h1 | h1
   ·simp [h1]
   ·omega
 ·rcases k.blk y hy with h1 | h1
  ·exact h.blk y h1
  ·exact .inr (Nat.le_trans h.keep.size h1)
theorem Wrote.ext {p : Nat} {v v' : Value} {a b c : World} (h : Wrote p v v' a b) (k : Ext b c) : Wrote p v v' a c := ⟨h.keep.ext k, h.blk⟩
theorem WrB.keep {X : List Nat} {w w' : World} {p : Nat} {v : Value} {t : List UInt8} (h : WrB w p v t) (k : Keep X w w') (h1 : p ∉ X) (h2 : ∀ y, v.ownBlock = some y → y ∉ X) : WrB w' p v t := by
 obtain ⟨⟨a, ha, hb⟩, ho, hn⟩ := h
 exact ⟨⟨a, ha, hb.keep k h1⟩, A1 ho k h2, hn⟩
theorem WrB.ext {w w' : World} {p : Nat} {v : Value} {t : List UInt8} (h : WrB w p v t) (k : Ext w w') : WrB w' p v t := h.keep k (by simp) (by simp)
theorem WrB.lt {w : World} {p : Nat} {v : Value} {t : List UInt8} (h : WrB w p v t) : p < w.heap.size := by
 obtain ⟨⟨a, _, hb⟩, _⟩ := h
 exact hb.lt
theorem WrB.ge {w : World} {p y : Nat} {v : Value} {t : List UInt8} (h : WrB w p v t) (hy : v.ownBlock = some y) : p < y ∧ y < w.heap.size := by
 have := Bb h.own hy
 exact ⟨by omega, this.2⟩
theorem copyCheck_ok (w : World) (p : Nat) (v : Value) (a : Option Addr) (ha : a = none ∨ a = some ⟨p, 0, none⟩) (hb : Blk w p 120 [.pointer a, v]) :
  Fn Tryz.prog 153 [pt p] w fun _ w' => Blk w' p 120 [pt p, v] ∧ Keep [p] w w' := by
 refine Aa Tryz.func153 rfl Tryz.ntmps153 (Nat.le_of_ble_eq_true rfl) (by kernel_rfl) ?_
 repeat' first | refine nx rfl ?_ | fail
 rcases ha with rfl | rfl
 ·have h0 : w.cell? ⟨p, 0 + 0, none⟩ = some (.pointer none) := hb.cell rfl
  (refine AA (AP rfl (AJ rfl (AD rfl ?_))) <;> refine AG rfl (Blk.cell (by assumption) (by rfl)) ?_)
  refine W_ptrNil rfl ?_
  repeat' first | refine nx rfl ?_ | fail
  refine AA (AP rfl (AP rfl ?_))
  refine W_toUnsafe (by kernel_rfl) rfl hb (Nat.zero_lt_succ _) ?_
  refine W_extern (vs := [pt p]) (fun W => noEsc_run _ W) rfl ?_
  refine W_fromUnsafe (by kernel_rfl) rfl hb (by kernel_rfl) ?_
  refine AJ rfl (AD rfl ?_)
  refine Al rfl rfl rfl hb (by simp) (fun w2 p2 => ?_)
  repeat' first | refine nx rfl ?_ | fail
  exact Au rfl ⟨p2.blk, p2.keep⟩
 ·have h0 : w.cell? ⟨p, 0 + 0, none⟩ = some (pt p) := hb.cell rfl
  (refine AA (AP rfl (AJ rfl (AD rfl ?_))) <;> refine AG rfl (Blk.cell (by assumption) (by rfl)) ?_)
  refine W_ptrNil rfl ?_
  repeat' first | refine nx rfl ?_ | refine nf rfl ?_
  (refine AA (AP rfl (AJ rfl (AD rfl ?_))) <;> refine AG rfl (Blk.cell (by assumption) (by rfl)) ?_ <;> refine AP rfl ?_)
  refine W_ptrNeqSame rfl rfl ?_
  repeat' first | refine nx rfl ?_ | refine nf rfl ?_
  exact Au rfl ⟨hb, Keep.refl _ _⟩
theorem writeStr_ok (w : World) (p : Nat) (v : Value) (t s : List UInt8) (h : WrB w p v t) (hl : t.length + s.length ≤ 140737488355328) :
  Fn Tryz.prog 122 [pt p, AM s] w fun _ w' => ∃ v', WrB w' p v' (t ++ s) ∧ Wrote p v v' w w' := by
 obtain ⟨⟨a, ha, hb⟩, ho, hn⟩ := id h
 refine Aa Tryz.func122 rfl Tryz.ntmps122 (Nat.le_of_ble_eq_true rfl) (by kernel_rfl) ?_
 repeat' first | refine nx rfl ?_ | fail
 refine AA (AB (AI rfl (AB (At ?_))))
 repeat' first | refine nx rfl ?_ | fail
 refine AA (AP rfl ?_)
 refine AR (copyCheck_ok w p v a ha hb) rfl ?_
 rintro _ w1 ⟨b1, k1⟩
 have h1 : w1.cell? ⟨p, 0 + 1, none⟩ = some v := b1.cell rfl
 have z1 := k1.size
 have hne : ∀ y, v.ownBlock = some y → y ≠ p := fun y hy e => by have := h.ge hy; omega
 have o1 := A1 ho k1 fun y hy hx => hne y hy (by simpa using hx)
 (refine AE ?_)
 repeat' first | refine nx rfl ?_ | fail
 (refine AA (AP rfl (AP rfl (AJ rfl (AD rfl ?_)))) <;> refine AG rfl (Blk.cell (by assumption) (by rfl)) ?_ <;> refine AT rfl ?_)
 refine W_appendS (v := v) (by kernel_rfl) rfl rfl o1 hl (by have := h.lt; omega) (fun v2 w2 o2 k2 hv2 hz2 => ?_)
 have b2 := b1.keep k2 (fun hx => hne p (Option.mem_toList.1 hx) rfl)
 refine AJ rfl (AD rfl ?_)
 have hv1 : v2.oneCell' = true := by rcases o2.2 with ⟨rfl, _⟩ | ⟨_, _, _, rfl, _⟩ <;> rfl
 refine Al rfl rfl hv1 b2 (by simp) (fun w3 p3 => ?_)
 have hne2 : ∀ y, v2.ownBlock = some y → y ≠ p := fun y hy => by
  have := Bb o2 hy
  omega
 have k13 : Wrote p v v2 w w3 := by
  refine ⟨((k1.mono (Y := p :: v.ownBlock.toList) (by simp)).trans k2 (fun x hx _ => by simp [hx])).trans p3.keep (by simp), ?_⟩
  ·intro y hy
   rcases hv2 with e | e
   ·exact .inl (by rw [← e]; exact hy)
   ·exact .inr (by have := e y hy; omega)
 repeat' first | refine nx rfl ?_ | fail
 refine AA (AT rfl (BH rfl (AB (AI rfl (AB (At ?_))))))
 repeat' first | refine nx rfl ?_ | fail
 refine fin_ret2 rfl ⟨v2, ⟨⟨some ⟨p, 0, none⟩, .inr rfl, p3.blk⟩, ?_, ?_⟩, k13⟩
 ·rw [List.length_append, cells8_append]
  exact A1 o2 p3.keep fun y hy hx => hne2 y hy (by simpa using hx)
 ·rcases hz2 with e | e | e
  ·exact .inl e
  ·rcases hn with e2 | e2
   ·exact absurd e2 e
   ·exact .inr (by simp [e2])
  ·exact .inr (by simp [e])
theorem put_ok (w : World) (p : Nat) (v sv : Value) (t : List UInt8) (parts : List (List UInt8)) (h : WrB w p v t) (hS : Sl (fun b => b < w.heap.size ∧ b ≠ p ∧ v.ownBlock ≠ some b) w sv parts.length (parts.map AM)) (hl : t.length + parts.flatten.length ≤ 140737488355328) :
  Fn Tryz.prog 75 [pt p, sv] w fun _ w' => ∃ v', WrB w' p v' (t ++ parts.flatten) ∧ Wrote p v v' w w' := by
 obtain ⟨a, cap, rfl, hnc, hcm, _, hq⟩ := hS
 have hbd : parts.length ≤ 9223372036854775807 := by omega
 refine Aa Tryz.func75 rfl Tryz.ntmps75 (Nat.le_of_ble_eq_true rfl) (by kernel_rfl) ?_
 repeat' first | refine nx rfl ?_ | fail
 refine AA (Ak rfl (Ao rfl (AI rfl ?_)))
 repeat' first | refine nx rfl ?_ | fail
 refine BE (α := Nat × Value) (fun x => [(0, pt p), (6, .slice a parts.length cap), (7, .int .i64 (parts.length : Int)), (8, .int .i64 (x.1 : Int))]) (fun x W => x.1 ≤ parts.length ∧ WrB W p x.2 (t ++ (parts.take x.1).flatten) ∧ Wrote p v x.2 w W) (fun x => parts.length - x.1) (0, v)
  ⟨rfl, rfl, rfl, rfl, trivial⟩ ⟨Nat.zero_le _, by simpa using h, Wrote.refl _ _ _⟩ ?_
 rintro ⟨i, v1⟩ w1 f1 ⟨hi, h1, k1⟩
 simp only at hi h1 k1 ⊢
 repeat' first | refine nx rfl ?_ | fail
 by_cases hlt : i < parts.length
 ·(refine AA ?_ <;> (refine As rfl rfl (fun hc => ?_) (fun hc => ?_) <;> try omega))
  repeat' first | refine nx rfl ?_ | fail
  rcases hq with h0 | ⟨b, o, rfl, hb, hcl⟩
  ·omega
  have hs : parts[i]? = some parts[i] := List.getElem?_eq_getElem hlt
  generalize parts[i] = s at hs
  have l0 : w1.cell? ⟨b, o + i, none⟩ = some (AM s) := k1.keep.cell (hcl i _ (by simp [hs])) (by
   simp only [List.mem_cons, Option.mem_toList, not_or]
   exact ⟨hb.2.1, hb.2.2⟩)
  have hfl : (parts.take (i + 1)).flatten = (parts.take i).flatten ++ s := by
   rw [List.take_add_one, hs]; simp
  have hle : (parts.take (i + 1)).flatten.length ≤ parts.flatten.length := by
   have e : parts.flatten = (parts.take (i + 1)).flatten ++ (parts.drop (i + 1)).flatten := by rw [← List.flatten_append, List.take_append_drop]
   rw [e, List.length_append]; omega
  rw [hfl, List.length_append] at hle
  (refine AA ?_ <;> refine W_idx1 rfl rfl rfl (by omega) ?_ <;> refine AG rfl (by assumption) ?_ <;> refine AB (AT rfl ?_))
  repeat' first | refine nx rfl ?_ | fail
  refine AA (AP rfl (AJ rfl (AD rfl (AT rfl ?_))))
  refine AR (writeStr_ok w1 p v1 _ s h1 (by rw [List.length_append]; omega)) rfl ?_
  rintro _ w2 ⟨v2, h2, k2⟩
  repeat' first | refine nx rfl ?_ | fail
  (refine AA ?_ <;> refine BD rfl rfl (by first | exact Ah (by omega) (by omega) | exact Aq (by omega) (by omega) | exact Ai (by omega) (by omega)) ?_ <;> refine AI rfl ?_)
  repeat' first | refine nx rfl ?_ | fail
  refine ⟨(i + 1, v2), ⟨rfl, ⟨rfl, rfl, rfl, ?_, trivial⟩, ⟨hlt, ?_, k1.trans k2⟩⟩, by simp only; omega⟩
  ·show Value.int .i64 ((i : Int) + 1) = _
   rw [Int.natCast_add]; rfl
  ·simp only
   rw [hfl, ← List.append_assoc]
   exact h2
 ·(refine AA ?_ <;> (refine As rfl rfl (fun hc => ?_) (fun hc => ?_) <;> try omega))
  repeat' first | refine nx rfl ?_ | refine nf rfl ?_
  refine Au rfl ⟨v1, ?_, k1⟩
  rw [List.take_of_length_le (by omega)] at h1
  exact h1
theorem bstring_ok (w : World) (p : Nat) (v : Value) (t : List UInt8) (h : WrB w p v t) (hl : t.length ≤ 140737488355328) :
  Fn Tryz.prog 73 [pt p] w fun u w' => u = AM t ∧ Keep v.ownBlock.toList w w' := by
 obtain ⟨⟨a, ha, hb⟩, ho, hn⟩ := id h
 refine Aa Tryz.func73 rfl Tryz.ntmps73 (Nat.le_of_ble_eq_true rfl) (by kernel_rfl) ?_
 repeat' first | refine nx rfl ?_ | fail
 refine AA (AB (AT rfl ?_))
 repeat' first | refine nx rfl ?_ | fail
 have hne : p ∉ v.ownBlock.toList := fun hx => by have := h.ge (Option.mem_toList.1 hx); omega
 have hsl : v = .slice none 0 0 ∧ t = [] ∨ t ≠ [] ∧ ∃ g c cur, v = .slice (some ⟨g, 0, none⟩) t.length c ∧ Blk w g 5 cur ∧ t.length ≤ cur.length ∧ c ≠ 0 ∧ cur.take t.length = CS t := by
  rcases ho.2 with ⟨rfl, h0⟩ | ⟨g, c, cur, rfl, hbg, hg, h1, h2, h3, h4⟩
  ·exact .inl ⟨rfl, List.length_eq_zero_iff.1 h0⟩
  ·have ht : t ≠ [] := by
    rcases hn with e | e
    ·cases e
    ·exact e
   have hp : 0 < t.length := List.length_pos_iff.2 ht
   have h3' : cur.size = c := by simpa using h3
   refine .inr ⟨ht, g, c, cur.toList, rfl, by simpa [Blk] using hg, by simp; omega, by omega, ?_⟩
   rw [← h4, Nat.mul_one]
 refine BA (.read 0 (.read 1 (.read 2 (.read 3 (.read 5 (.read 6 (.read 7 (.read 8 (.read 9 (.alt 4 (.alt 10 (.read 11 .done) .stop) .stop)))))))))) A6 (by kernel_rfl) (fun wd kd ed => ⟨Keep v.ownBlock.toList wd, ?_, ?_⟩)
 ·exact Keep.refl _ _
 have fc : ∀ W, Keep v.ownBlock.toList wd W → W.cell? ⟨p, 0 + 1, none⟩ = some v := fun W k => ((hb.keep kd (by simp)).keep k hne).cell rfl
 rcases hsl with ⟨rfl, rfl⟩ | ⟨ht, g, c, cur, rfl, hg, hlc, hc0, hcu⟩
 ·((apply D_R rfl rfl; (intro W hW; refine AP rfl ?_; exact AE ⟨rfl, rfl, rfl⟩)) <;> (apply D_R rfl rfl; (intro W hW; refine AJ rfl ?_; exact AE ⟨rfl, rfl, rfl⟩)) <;> (apply D_R rfl rfl; (intro W hW; refine AD rfl ?_; exact AE ⟨rfl, rfl, rfl⟩)) <;> (apply D_R rfl rfl; (intro W hW; refine AG rfl (fc W hW) ?_; exact AE ⟨rfl, rfl, rfl⟩)) <;> (apply D_R rfl rfl; (intro W hW; refine AP rfl ?_; exact AE ⟨rfl, rfl, rfl⟩)) <;> (apply D_R rfl rfl; (intro W hW; refine AJ rfl ?_; exact AE ⟨rfl, rfl, rfl⟩)) <;> (apply D_R rfl rfl; (intro W hW; refine AD rfl ?_; exact AE ⟨rfl, rfl, rfl⟩)) <;> (apply D_R rfl rfl; (intro W hW; refine AG rfl (fc W hW) ?_; exact AE ⟨rfl, rfl, rfl⟩)) <;> (apply D_R rfl rfl; (intro W hW; refine Ao rfl ?_; exact AE ⟨rfl, rfl, rfl⟩)))
  refine D_E rfl ?_
  refine W_sliceDataNil rfl ?_
  refine AE ⟨_, fun _ h => h, Keep.refl _ _, ?_⟩
  refine D_E rfl ?_
  refine W_unsafeStrNil rfl rfl ?_
  refine AE ⟨_, fun _ h => h, Keep.refl _ _, ?_⟩
  ((apply D_R rfl rfl; (intro W hW; (refine AB ?_; refine AT rfl ?_); exact AE ⟨rfl, rfl, rfl⟩)) <;> refine A0 ?_)
  repeat' first | refine nx rfl ?_ | fail
  exact AL rfl ⟨rfl, kd.any⟩
 ·((apply D_R rfl rfl; (intro W hW; refine AP rfl ?_; exact AE ⟨rfl, rfl, rfl⟩)) <;> (apply D_R rfl rfl; (intro W hW; refine AJ rfl ?_; exact AE ⟨rfl, rfl, rfl⟩)) <;> (apply D_R rfl rfl; (intro W hW; refine AD rfl ?_; exact AE ⟨rfl, rfl, rfl⟩)) <;> (apply D_R rfl rfl; (intro W hW; refine AG rfl (fc W hW) ?_; exact AE ⟨rfl, rfl, rfl⟩)) <;> (apply D_R rfl rfl; (intro W hW; refine AP rfl ?_; exact AE ⟨rfl, rfl, rfl⟩)) <;> (apply D_R rfl rfl; (intro W hW; refine AJ rfl ?_; exact AE ⟨rfl, rfl, rfl⟩)) <;> (apply D_R rfl rfl; (intro W hW; refine AD rfl ?_; exact AE ⟨rfl, rfl, rfl⟩)) <;> (apply D_R rfl rfl; (intro W hW; refine AG rfl (fc W hW) ?_; exact AE ⟨rfl, rfl, rfl⟩)) <;> (apply D_R rfl rfl; (intro W hW; refine Ao rfl ?_; exact AE ⟨rfl, rfl, rfl⟩)))
  refine D_E rfl ?_
  refine W_sliceData rfl hc0 ?_
  refine AE ⟨_, fun _ h => h, Keep.refl _ _, ?_⟩
  refine D_E rfl ?_
  refine W_unsafeStr (by kernel_rfl) (by kernel_rfl) rfl rfl ht (hg.keep kd (by simp)) hlc (by omega) hcu (fun w3 k3 => ?_)
  refine AE ⟨_, fun _ h => h, k3, ?_⟩
  ((apply D_R rfl rfl; (intro W hW; (refine AB ?_; refine AT rfl ?_); exact AE ⟨rfl, rfl, rfl⟩)) <;> refine A0 ?_)
  repeat' first | refine nx rfl ?_ | fail
  exact AL rfl ⟨rfl, kd.any.trans k3 (fun x hx _ => hx)⟩
end Go.Proofs.YtfcgdbmoncnibaaGreatDoor
namespace Go.Proofs.YtfcgdbmoncnibaaGreatDoor
set_option linter.unusedVariables false
theorem okF_eq (f : Fml) : okF f = (nodeOk f.op f.name f.val f.bound f.args.length && okL f.args) := by cases f; simp [okF, Fml.op, Fml.name, Fml.val, Fml.bound, Fml.args]
def pcOk : Pc → Bool
 | .txt _ => true
 | .sub f _ => okF f
def Cm : Pc → Nat
 | .txt t => t.length
 | .sub f _ => 44 * szF f - 22
def pcWt : Pc → Nat
 | .txt _ => 1
 | .sub f _ => 8 * szF f - 4
def pcFit : Pc → Prop
 | .txt _ => True
 | .sub f n => n ≤ 9 ∧ szF f ≤ 1000000
def B8 (g : Pc → Nat) (ps : List Pc) : Nat := (ps.map g).sum
theorem CK (g : Pc → Nat) (a b : List Pc) : B8 g (a ++ b) = B8 g a + B8 g b := by simp [B8]
theorem sumP_rev (g : Pc → Nat) (a : List Pc) : B8 g a.reverse = B8 g a := by simp [B8, List.map_reverse, List.sum_reverse]
theorem CQ (g : Pc → Nat) (p : Pc) (a : List Pc) : B8 g (p :: a) = g p + B8 g a := by simp [B8]
theorem sumP_nil (g : Pc → Nat) : B8 g [] = 0 := rfl
theorem wt_argP (next : Nat) (sg : List UInt8) : ∀ l, B8 pcWt (argP next sg l) + 3 * l.length ≤ 8 * szL l
 | [] => by simp [argP, B8]
 | a :: l => by
  have := wt_argP next sg l
  have := Cw a
  simp only [argP, CQ, szL, pcWt, List.length_cons]; omega
theorem pot_argP (next : Nat) (sg : List UInt8) (hs : sg.length ≤ 20) : ∀ l, B8 Cm (argP next sg l) + 2 * l.length ≤ 44 * szL l
 | [] => by simp [argP, B8]
 | a :: l => by
  have := pot_argP next sg hs l
  have := Cw a
  simp only [argP, CQ, szL, Cm, List.length_cons]; omega
theorem ok_argP (next : Nat) (sg : List UInt8) : ∀ l, (argP next sg l).all pcOk = okL l
 | [] => by simp [argP, okL]
 | a :: l => by simp [argP, okL, pcOk, ok_argP next sg l]
theorem sgT_len {op v b : Int} {nm : List UInt8} {k : Nat} (h : nodeOk op nm v b k = true) : (sgT op nm v b).length ≤ 20 := by
 obtain ⟨s, hs, _, _, h1, h2, h3, h4, h5, _⟩ := node_parts h
 have hsg : s.sign.length ≤ 5 ∧ s.val ≤ 9999 ∧ s.bound ≤ 9999 := by
  rcases op_cases hs with h | h | h | h | h | h | h | h | h | h | h | h | h | h | h | h | h | h | h <;> rw [h] at hs <;> simp [BS, styL, List.lookup] at hs <;> subst hs <;> decide
 have esd : CO op = s := by unfold CO; rw [hs]; rfl
 have hv : (numT v).length ≤ 4 := digs_len (by omega)
 have hb : (numT b).length ≤ 4 := digs_len (by omega)
 unfold sgT
 rw [esd]
 split
 ·rename_i h0
  have := (BB (h5 h0)).2.1
  split
  ·omega
  ·simp; omega
 split
 ·simp; omega
 split
 ·split <;> simp
 split
 ·split
  ·simp; omega
  ·simp; omega
 ·omega
theorem wt_pcs {f : Fml} (s : Sty) (n : Nat) : B8 pcWt (pcs s n f) < pcWt (.sub f n) := by
 have h1 : B8 pcWt (CW s n) ≤ 1 := by unfold CW; split <;> simp [B8, pcWt]
 have h2 : B8 pcWt (Cp s n) ≤ 1 := by unfold Cp; split <;> simp [B8, pcWt]
 have h3 : B8 pcWt (CC (sgT f.op f.name f.val f.bound) f.args.length) ≤ 1 := by unfold CC; split <;> simp [B8, pcWt]
 have h4 := szF_eq f
 unfold pcs
 rw [CK, CK, CK]
 have h5 : B8 pcWt (CE s.first s.next (sgT f.op f.name f.val f.bound) f.args) ≤ 8 * szL f.args := by
  cases f.args with
  | nil => simp [CE, B8]
  | cons a l =>
   have := wt_argP s.next (sgT f.op f.name f.val f.bound) l
   have := Cw a
   simp only [CE, CQ, szL, pcWt]; omega
 simp only [pcWt]
 omega
theorem pot_pcs {f : Fml} {s : Sty} {n : Nat} (h : nodeOk f.op f.name f.val f.bound f.args.length = true) : B8 Cm (pcs s n f) ≤ Cm (.sub f n) := by
 have hg := sgT_len h
 have h1 : B8 Cm (CW s n) ≤ 1 := by unfold CW; split <;> simp [B8, Cm]
 have h2 : B8 Cm (Cp s n) ≤ 1 := by unfold Cp; split <;> simp [B8, Cm]
 have h4 := szF_eq f
 unfold pcs
 generalize sgT f.op f.name f.val f.bound = sg at hg ⊢
 rw [CK, CK, CK]
 have h5 : B8 Cm (CC sg f.args.length) + B8 Cm (CE s.first s.next sg f.args) ≤ 44 * szL f.args + 20 := by
  cases f.args with
  | nil => simp [CE, CC, B8, Cm]; omega
  | cons a l =>
   have := pot_argP s.next sg hg l
   have := Cw a
   have h6 : B8 Cm (CC sg (a :: l).length) ≤ 20 := by unfold CC; split <;> simp [B8, Cm] <;> omega
   simp only [CE, CQ, szL, Cm]; omega
 simp only [Cm]
 omega
theorem ok_pcs (f : Fml) (s : Sty) (n : Nat) : (pcs s n f).all pcOk = okL f.args := by
 have h1 : (CW s n).all pcOk = true := by unfold CW; split <;> simp [pcOk]
 have h2 : (Cp s n).all pcOk = true := by unfold Cp; split <;> simp [pcOk]
 have h3 : ∀ sg k, (CC sg k).all pcOk = true := fun sg k => by unfold CC; split <;> simp [pcOk]
 unfold pcs
 rw [List.all_append, List.all_append, List.all_append, h1, h2, h3]
 cases f.args with
 | nil => simp [CE, okL]
 | cons a l => simp [CE, okL, pcOk, ok_argP]
theorem fit_pcs {f : Fml} {s : Sty} {n : Nat} (hs : BS f.op = some s) (hz : szF f ≤ 1000000) : ∀ p ∈ pcs s n f, pcFit p := by
 have hlv : s.first ≤ 9 ∧ s.next ≤ 9 := by
  rcases op_cases hs with h | h | h | h | h | h | h | h | h | h | h | h | h | h | h | h | h | h | h <;> rw [h] at hs <;> simp [BS, styL, List.lookup] at hs <;> subst hs <;> decide
 have h4 := szF_eq f
 have hA : ∀ l : List Fml, szL l ≤ 1000000 → ∀ sg, ∀ p ∈ argP s.next sg l, pcFit p := by
  intro l
  induction l with
  | nil => intro _ sg p hp; cases hp
  | cons a l ih =>
   intro hl sg p hp
   simp only [szL] at hl
   rcases List.mem_cons.1 hp with rfl | hp
   ·trivial
   rcases List.mem_cons.1 hp with rfl | hp
   ·exact ⟨hlv.2, by omega⟩
   ·exact ih (by omega) sg p hp
 intro p hp
 unfold pcs at hp
 rcases List.mem_append.1 hp with hp | hp
 ·rcases List.mem_append.1 hp with hp | hp
  ·rcases List.mem_append.1 hp with hp | hp
   ·unfold CW at hp; split at hp <;> simp at hp; subst hp; trivial
   ·unfold CC at hp; split at hp <;> simp at hp; subst hp; trivial
  ·generalize f.args = l at hp h4
   cases l with
   | nil => cases hp
   | cons a l =>
    simp only [szL] at h4
    rcases List.mem_cons.1 hp with rfl | hp
    ·exact ⟨hlv.1, by omega⟩
    ·exact hA l (by omega) _ p hp
 ·unfold Cp at hp; split at hp <;> simp at hp; subst hp; trivial
theorem sub_pcs {f : Fml} {s : Sty} {n m : Nat} {a : Fml} (h : Pc.sub a m ∈ pcs s n f) : a ∈ f.args := by
 have hA : ∀ (l : List Fml) nx sg, Pc.sub a m ∈ argP nx sg l → a ∈ l := by
  intro l nx sg
  induction l with
  | nil => intro h; cases h
  | cons c l ih =>
   intro h
   rcases List.mem_cons.1 h with e | h
   ·cases e
   rcases List.mem_cons.1 h with e | h
   ·cases e; simp
   ·simp [ih h]
 unfold pcs at h
 rcases List.mem_append.1 h with h | h
 ·rcases List.mem_append.1 h with h | h
  ·rcases List.mem_append.1 h with h | h
   ·unfold CW at h; split at h <;> simp at h
   ·unfold CC at h; split at h <;> simp at h
  ·generalize f.args = l at h ⊢
   cases l with
   | nil => cases h
   | cons c l =>
    rcases List.mem_cons.1 h with e | h
    ·cases e; simp
    ·simp [hA l _ _ h]
 ·unfold Cp at h; split at h <;> simp at h
theorem out_sum : ∀ {ps : List Pc}, (∀ p ∈ ps, (outP p).length ≤ Cm p) → (ps.flatMap outP).length ≤ B8 Cm ps
 | [], _ => by simp
 | p :: ps, h => by
  have h1 := h p (by simp)
  have h2 := out_sum fun q hq => h q (List.mem_cons_of_mem p hq)
  rw [List.flatMap_cons, List.length_append, CQ]; omega
theorem prF_len : ∀ (N : Nat) (f : Fml), szF f ≤ N → okF f = true → ∀ n, (prF n f).length ≤ 44 * szF f - 22
 | 0, f, hN, _, _ => by have := Cw f; omega
 | N + 1, f, hN, hok, n => by
  rw [okF_eq, Bool.and_eq_true] at hok
  obtain ⟨s, hs, _⟩ := node_parts hok.1
  rw [← out_pcs hs n]
  refine Nat.le_trans (out_sum fun p hp => ?_) (pot_pcs hok.1)
  cases p with
  | txt t => exact Nat.le_refl _
  | sub a m =>
   have hm := sub_pcs hp
   have h1 := szL_mem hm
   have h2 := szF_eq f
   exact prF_len N a (by omega) (okL_mem hok.2 _ hm) m
end Go.Proofs.YtfcgdbmoncnibaaGreatDoor
namespace Go.Proofs.YtfcgdbmoncnibaaGreatDoor
open Go.RowKit
set_option linter.unusedVariables false
theorem PS.keep {C B : Nat} {v : Value} {L : List (List Value)} {ps : List Pc} {X : List Nat} {W W' : World} (h : PS C B v L ps W) (k : Keep X W W') (h1 : ∀ y, v.ownBlock = some y → y ∉ X) (h2 : ∀ b, b < C → b ∉ X) : PS C B v L ps W' :=
 ⟨A1 h.own k h1, h.rs.keep k h2, h.le⟩
theorem PS.cut {C B n cap : Nat} {a : Option Addr} {L : List (List Value)} {ps : List Pc} {c : List Value} {q : Pc} {W : World} (h : PS C B (.slice a n cap) (L ++ [c]) (ps ++ [q]) W) : PS C B (.slice a ps.length cap) L ps W := by
 have hl := h.rs.1
 simp only [List.length_append, List.length_singleton] at hl
 have h3 := h.rs.len
 have hL3 : ∀ d ∈ L, d.length = 3 := fun d hd => h3 d (by simp [hd])
 have hLl : L.flatten.length = ps.length * 3 := by rw [flat_len 3 L hL3]; omega
 refine ⟨⟨hLl, ?_⟩, ⟨by omega, fun i c p hc hp => ?_⟩, h.le⟩
 ·rcases h.own.2 with ⟨e, h0⟩ | ⟨g, cap', cur, e, hB, hg, g1, g2, g3, g4⟩
  ·simp at h0
  ·cases e
   refine .inr ⟨g, cap, cur, rfl, hB, hg, by simp at g1; omega, g2, g3, ?_⟩
   have e2 : cur.toList.take (ps.length * 3) = ((cur.toList.take ((ps ++ [q]).length * 3))).take (ps.length * 3) := by
    rw [List.take_take, Nat.min_eq_left (by simp; omega)]
   rw [e2, g4, List.flatten_append, List.take_append_of_le_length (by omega), List.take_of_length_le (by omega)]
 ·have hi := (List.getElem?_eq_some_iff.1 hc).1
  have hi2 := (List.getElem?_eq_some_iff.1 hp).1
  exact h.rs.2 i c p (by rw [List.getElem?_append_left hi]; exact hc) (by rw [List.getElem?_append_left hi2]; exact hp)
theorem PS.rev_form {C B : Nat} {v : Value} {L : List (List Value)} {ps : List Pc} {W : World} (h : PS C B v L ps W) (hp : 0 < ps.length) : ∃ a cap L' ps' c q, v = .slice a (ps'.length + 1) cap ∧ L = L' ++ [c] ∧ ps = ps' ++ [q] ∧ pcFits (fun b => b < C) W c q ∧ c.length = 3 ∧ oneC c ∧ ps'.length + 1 ≤ cap ∧
  ∃ g, a = some ⟨g, 0, none⟩ ∧ Cells W g (0 + ps'.length * 3) c := by
 obtain ⟨a, cap, rfl⟩ := h.form
 have hL : L.length = ps.length := h.rs.1
 obtain ⟨ps', q, rfl⟩ : ∃ ps' q, ps = ps' ++ [q] := ⟨ps.dropLast, ps.getLast (by intro e; simp [e] at hp), (List.dropLast_concat_getLast _).symm⟩
 obtain ⟨L', c, rfl⟩ : ∃ L' c, L = L' ++ [c] := ⟨L.dropLast, L.getLast (by intro e; simp [e] at hL), (List.dropLast_concat_getLast _).symm⟩
 simp only [List.length_append, List.length_singleton] at hL
 have hf : pcR.fits (fun b => b < C) W c q := h.rs.2 ps'.length c q (by rw [List.getElem?_append_right (by omega)]; simp [show ps'.length - L'.length = 0 by omega]) (by simp)
 have h3 : ∀ d ∈ L' ++ [c], d.length = 3 := h.rs.len
 obtain ⟨g, rest, rfl, hB, hb, _⟩ := own_rows h.own hp
 refine ⟨_, cap, L', ps', c, q, by simp, rfl, rfl, hf, h3 c (by simp), pcR.one hf, ?_, g, rfl, ?_⟩
 ·rcases h.own.2 with ⟨e, h0⟩ | ⟨g, cap', cur, e, hB, hg, g1, _⟩
  ·simp at h0
  ·cases e; simpa using g1
 ·exact row_cells hb h3 (by rw [List.getElem?_append_right (by omega)]; simp [show ps'.length - L'.length = 0 by omega])
theorem PS.ge {C B y : Nat} {v : Value} {L : List (List Value)} {ps : List Pc} {W : World} (h : PS C B v L ps W) (hy : v.ownBlock = some y) : B ≤ y ∧ y < W.heap.size := Bb h.own hy
structure FI (w : World) (p r : Nat) (v : Value) (t : List UInt8) (f : Fml) (x : Value × List (List Value) × List Pc × Value × List UInt8) (W : World) : Prop where
 wr : Wrote p v x.2.2.2.1 w W
 wb : WrB W p x.2.2.2.1 x.2.2.2.2
 ps : PS p w.heap.size x.1 x.2.1 x.2.2.1 W
 ne : ∀ y, x.1.ownBlock = some y → x.2.2.2.1.ownBlock ≠ some y
 sty : StyM W r
 rn : x.1.ownBlock ≠ some r ∧ x.2.2.2.1.ownBlock ≠ some r ∧ r < W.heap.size
 fit : ∀ q ∈ x.2.2.1, pcFit q
 out : x.2.2.2.2 ++ x.2.2.1.reverse.flatMap outP = t ++ prF 0 f
 ok : x.2.2.1.all pcOk = okF f
 pot : x.2.2.2.2.length + B8 Cm x.2.2.1 ≤ t.length + (44 * szF f - 22)
 wt : B8 pcWt x.2.2.1 ≤ 8 * szF f
theorem wt_len : ∀ ps : List Pc, ps.length ≤ B8 pcWt ps
 | [] => by simp
 | .txt t :: ps => by have := wt_len ps; rw [CQ]; simp only [pcWt, List.length_cons]; omega
 | .sub f n :: ps => by have := wt_len ps; have := Cw f; rw [CQ]; simp only [pcWt, List.length_cons]; omega
set_option maxHeartbeats 3200000 in
theorem wformula_ok (w : World) (p b o : Nat) (v : Value) (t : List UInt8) (f : Fml) (hw : WrB w p v t) (hf : PF (fun b => b < p) w b o f) (hG : GP w) (hp : 10 ≤ p) (hz : szF f ≤ 1000000) (hl : t.length ≤ 1000000000) :
  FnP Tryz.prog 44 [pt p, .pointer (some ⟨b, o, none⟩)] w (fun _ w' => okF f = true ∧ ∃ v', WrB w' p v' (t ++ prF 0 f) ∧ Wrote p v v' w w') (fun ch w' => ch = unp ∧ okF f = false ∧ ∃ v', Wrote p v v' w w') := by
 have hpw := hw.lt
 refine Ap Tryz.func44 rfl Tryz.ntmps44 (Nat.le_of_ble_eq_true rfl) (by kernel_rfl) ?_
 repeat' first | refine nx rfl ?_ | fail
 (refine AA ?_)
 refine AR (styles_ok w) rfl ?_
 rintro _ w1 ⟨r, rfl, k1, hr, hst⟩
 have hrl : r < w1.heap.size := by obtain ⟨M, hM, _⟩ := id hst; exact hM.lt
 ((refine AB ?_; refine M_map rfl ?_))
 repeat' first | refine nx rfl ?_ | fail
 (refine AA (AP rfl ?_) <;> refine Ac (by rfl) (by rfl) ?_)
 refine AV (out := subC b o 0) rfl (by omega) (by kernel_rfl) (fun w2 n2 => ?_)
 have z1 := k1.size
 have z2 := n2.size
 have k2 : Ext w w2 := k1.trans n2.keep
 have o2 := n2.own (n := 1) (size := 3) (B := w.heap.size) rfl (by decide) z1
 ((refine AB ?_; refine Ak rfl ?_))
 repeat' first | refine nx rfl ?_ | fail
 have h0 : FI w p r v t f (.slice (some ⟨w1.heap.size, 0, none⟩) 1 1, [subC b o 0], [.sub f 0], v, t) w2 := by
  refine ⟨⟨k2.any, fun y hy => .inl hy⟩, hw.ext k2, ⟨by simpa using o2, RsAt.one (R := pcR) (a := Pc.sub f 0) ⟨b, o, rfl, hf.keep k2 (by simp)⟩, by omega⟩, ?_, hst.keep n2.keep (by simp), ⟨?_, ?_, by omega⟩, ?_, by simp [outP], by simp [pcOk], by simp [B8, Cm], by simp [B8, pcWt]⟩
  ·intro y hy h2
   have hy : w1.heap.size = y := by simpa [Value.ownBlock] using hy
   have := (hw.ge h2).2
   omega
  ·intro e
   have e : w1.heap.size = r := by simpa [Value.ownBlock] using e
   omega
  ·intro e; have := (hw.ge e).2; omega
  ·intro q hq
   simp at hq; subst hq
   exact ⟨by omega, hz⟩
 clear o2 n2
 refine BE (α := Value × List (List Value) × List Pc × Value × List UInt8) (fun x => [(0, pt p), (4, .map (some r)), (5, x.1)]) (FI w p r v t f) (fun x => B8 pcWt x.2.2.1) (.slice (some ⟨w1.heap.size, 0, none⟩) 1 1, [subC b o 0], [.sub f 0], v, t) ⟨rfl, rfl, rfl, trivial⟩ h0 ?_
 clear h0 z2 k2
 rintro ⟨tv, L, ps, v1, t1⟩ w3 f3 hI
 obtain ⟨hwr, hwb, hps, hne, hst3, ⟨hr1, hr2, hr3⟩, hfit, hout, hok, hpot, hwt⟩ := id hI
 simp only at hwr hwb hps hne hst3 hr1 hr2 hr3 hfit hout hok hpot hwt ⊢
 repeat' first | refine nx rfl ?_ | fail
 have hlen := wt_len ps
 by_cases hp0 : ps.length = 0
 ·have e0 : ps = [] := List.length_eq_zero_iff.1 hp0
  subst e0
  obtain ⟨a, cp, rfl⟩ := hps.form
  rw [hp0]
  (refine AA (Ak rfl (Ao rfl ?_)) <;> (refine Bn rfl rfl (fun hc => ?_) (fun hc => ?_) <;> try omega))
  repeat' first | refine nx rfl ?_ | refine nf rfl ?_
  refine Au rfl ⟨by simpa using hok.symm, v1, ?_, hwr⟩
  simp at hout
  rw [← hout]
  exact hwb
 obtain ⟨a, cap, L', ps', c, q, rfl, rfl, rfl, hq, hc3, hc1, hcap, g, rfl, hcl⟩ := hps.rev_form (by omega)
 clear hp0
 rw [List.length_append, List.length_singleton] at hlen
 (refine AA (Ak rfl (Ao rfl ?_)) <;> (refine Bn rfl rfl (fun hc => ?_) (fun hc => ?_) <;> try omega))
 repeat' first | refine nx rfl ?_ | fail
 (refine AA (Ak rfl (Ak rfl (Ao rfl ?_))) <;> refine W_sub rfl rfl (by first | exact Ah (by omega) (by omega) | exact Aq (by omega) (by omega) | exact Ai (by omega) (by omega)) ?_)
 refine BP (k := ps'.length) rfl rfl (by omega) (by omega) ?_
 refine AU (L := c) rfl hc3 hcl ?_
 refine A7 (cs := c) rfl hc3 (by rfl) hc1 (fun w4 n4 => ?_)
 have z4 := n4.size
 have k4 := n4.keep
 repeat' first | refine nx rfl ?_ | fail
 (refine AA (Ak rfl (Ak rfl (Ao rfl ?_))) <;> refine W_sub rfl rfl (by first | exact Ah (by omega) (by omega) | exact Aq (by omega) (by omega) | exact Ai (by omega) (by omega)) ?_)
 refine W_slice_h rfl rfl (by omega) (by omega) ?_
 rw [show ((((ps'.length + 1 : Nat) : Int) - 1).toNat) = ps'.length by omega]
 ((refine AB ?_; refine Ak rfl ?_))
 repeat' first | refine nx rfl ?_ | fail
 have b4 := n4.blk
 have hps4 := hps.cut.ext k4
 have hwb4 := hwb.ext k4
 have hwr4 := hwr.ext k4
 have hst4 := hst3.keep k4 (by simp)
 have hfq : pcFit q := hfit q (by simp)
 have hfit' : ∀ x ∈ ps', pcFit x := fun x hx => hfit x (by simp [hx])
 rw [CK, CQ, sumP_nil] at hpot hwt
 rw [List.all_append] at hok
 rw [List.reverse_append, List.reverse_singleton, List.singleton_append, List.flatMap_cons] at hout
 cases q with
 | txt s =>
  have hq : c = txtC s := hq
  subst hq
  have h41 : w4.cell? ⟨w3.heap.size, 0 + 1, none⟩ = some (.pointer none) := b4.cell rfl
  have h40 : w4.cell? ⟨w3.heap.size, 0 + 0, none⟩ = some (AM s) := b4.cell rfl
  (refine AA (AD rfl ?_) <;> refine AG rfl (Blk.cell (by assumption) (by rfl)) ?_)
  refine W_ptrNil rfl ?_
  repeat' first | refine nx rfl ?_ | fail
  (refine AA (AP rfl (AD rfl ?_)) <;> refine AG rfl (Blk.cell (by assumption) (by rfl)) ?_)
  refine AV (out := [AM s]) rfl (by omega) (by kernel_rfl) (fun w5 n5 => ?_)
  have z5 := n5.size
  have k5 := n5.keep
  have hwb5 := hwb4.ext k5
  have hS5 : Sl (fun b => b < w5.heap.size ∧ b ≠ p ∧ v1.ownBlock ≠ some b) w5 (.slice (some ⟨w4.heap.size, 0, none⟩) 1 1) [s].length ([s].map AM) := by
   refine ⟨_, _, rfl, by simp, by omega, (fun h => by cases h), .inr ⟨_, _, rfl, ⟨by omega, ?_, ?_⟩, n5.blk.cells⟩⟩
   ·have := hwb4.lt; omega
   ·intro e; have := (hwb4.ge e).2; omega
  simp only [Cm] at hpot
  simp only [pcWt] at hwt
  refine AR (put_ok w5 p v1 _ t1 [s] hwb5 hS5 (by simp; omega)) rfl ?_
  rintro _ w6 ⟨v6, hwb6, hwr6⟩
  simp only [List.flatten_cons, List.flatten_nil, List.append_nil] at hwb6
  repeat' first | refine nx rfl ?_ | fail
  have z6 := hwr6.keep.size
  have hX : ∀ y, y < w5.heap.size → y ≠ p → v1.ownBlock ≠ some y → y ∉ p :: v1.ownBlock.toList := fun y _ h1 h2 hx => by
   rcases List.mem_cons.1 hx with hx | hx
   ·exact h1 hx
   ·exact h2 (Option.mem_toList.1 hx)
  refine ⟨(_, L', ps', v6, t1 ++ s), ⟨rfl, ⟨rfl, rfl, rfl, trivial⟩, ⟨(hwr4.ext k5).trans hwr6, hwb6, (hps4.ext k5).keep hwr6.keep ?_ ?_, ?_, (hst4.keep k5 (by simp)).keep hwr6.keep ?_, ⟨hr1, ?_, ?_⟩, hfit', ?_, ?_, ?_, ?_⟩⟩, ?_⟩
  ·intro y hy
   have := hps4.ge hy
   exact hX y (by omega) (by omega) (hne y hy)
  ·intro y hy
   exact hX y (by omega) (by omega) (fun e => by have := (hwb4.ge e).1; omega)
  ·intro y hy h2
   rcases hwr6.blk y h2 with e | e
   ·exact hne y hy e
   ·have := (hps4.ge hy).2; omega
  ·exact hX r (by omega) (by omega) hr2
  ·intro e
   rcases hwr6.blk r e with e | e
   ·exact hr2 e
   ·omega
  ·omega
  ·simp only; rw [List.append_assoc]; exact hout
  ·simp only; rw [← hok]; simp [pcOk]
  ·simp only; rw [List.length_append]; omega
  ·simp only; omega
  ·simp only; rw [CK, CQ, sumP_nil]; simp only [pcWt]; omega
 | sub f' n =>
  obtain ⟨b', o', hq, hpf⟩ := hq
  subst hq
  have h41 : w4.cell? ⟨w3.heap.size, 0 + 1, none⟩ = some (.pointer (some ⟨b', o', none⟩)) := b4.cell rfl
  have h42 : w4.cell? ⟨w3.heap.size, 0 + 2, none⟩ = some (.int .i64 (n : Int)) := b4.cell rfl
  (refine AA (AD rfl ?_) <;> refine AG rfl (Blk.cell (by assumption) (by rfl)) ?_)
  refine W_ptrNil rfl ?_
  repeat' first | refine nx rfl ?_ | refine nf rfl ?_
  have hpf4 := hpf.keep k4 (by simp)
  obtain ⟨_, a5, c5, L5, hcl5, _, _⟩ := hpf4.form
  have h50 : w4.cell? ⟨b', o' + 0, none⟩ = some (.int .i64 f'.op) := hcl5 0 _ rfl
  obtain ⟨M, hM, hlook⟩ := id hst4
  (refine AA (M_map rfl (AD rfl ?_)) <;> refine AG rfl (Blk.cell (by assumption) (by rfl)) ?_ <;> refine AJ rfl (AD rfl ?_) <;> refine AG rfl (by assumption) ?_)
  refine W_lookup2V rfl rfl hM ?_
  rw [hlook]
  clear hlook hM M
  simp only [Cm, pcWt, outP] at hpot hwt hout
  rw [List.all_cons, List.all_nil, Bool.and_true] at hok
  simp only [pcOk] at hok
  cases hs : BS f'.op with
  | none =>
   have hbad : okF f' = false := by rw [okF_eq]; unfold nodeOk; rw [hs]; rfl
   have hbad2 : okF f = false := by rw [← hok, hbad, Bool.and_false]
   refine Bl rfl (Aj rfl rfl (Aj rfl rfl ?_))
   refine A7 (cs := sty0) rfl rfl (by rfl) (BX rfl) (fun w5 n5 => ?_)
   ((refine AB ?_; refine AC rfl ?_))
   repeat' first | refine nx rfl ?_ | fail
   refine AA (AC rfl ?_)
   refine AZ (Bh w5 false) rfl ?_ ?_
   ·rintro v w6 ⟨_, hb, _⟩; cases hb
   rintro ch w6 ⟨rfl, _, rfl⟩
   repeat' first | refine nx rfl ?_ | fail
   exact AY ⟨rfl, hbad2, v1, hwr4.ext n5.keep⟩
  | some s =>
   refine Bl rfl (Aj rfl rfl (Aj rfl rfl ?_))
   refine A7 (cs := By s) rfl rfl (by rfl) (styC_one s) (fun w5 n5 => ?_)
   ((refine AB ?_; refine AC rfl ?_))
   repeat' first | refine nx rfl ?_ | fail
   have z5 := n5.size
   have k5 := n5.keep
   refine AA (AC rfl ?_)
   refine AZ (Bh w5 true) rfl ?_ ?_
   rotate_left
   ·rintro ch w6 ⟨_, hb, _⟩; cases hb
   rintro _ w6 ⟨rfl, _, rfl⟩
   repeat' first | refine nx rfl ?_ | fail
   have b6 := n5.blk
   have i1 := k5.cell h41 (by simp)
   have i2 := k5.cell h42 (by simp)
   have hGw : GP w6 := hG.keep (hwr4.ext k5).keep (by
    intro x hx
    rcases List.mem_cons.1 hx with rfl | hx
    ·exact hp
    ·have := (hw.ge (Option.mem_toList.1 hx)).1; omega)
   (refine AA ?_; refine AW (L := By s) rfl b6 rfl ?_)
   (refine AD rfl ?_ <;> refine AG rfl (by assumption) ?_ <;> refine AD rfl ?_ <;> refine AG rfl (by assumption) ?_)
   have hC6 : p ≤ w6.heap.size := by have := hwb4.lt; omega
   have hf6 := hpf4.keep k5 (by simp)
   have hal : f'.args.length ≤ 1000000 := by
    have := szL_len f'.args
    have := szF_eq f'
    have := hfq.2
    omega
   refine AZ (pieces_ok w6 p hC6 s b' o' n f' hf6 hs hfq.1 hal hGw) rfl ?_ ?_
   rotate_left
   ·rintro ch w7 ⟨rfl, k7, hb7⟩
    repeat' first | refine nx rfl ?_ | fail
    refine AY ⟨rfl, ?_, v1, (hwr4.ext k5).ext k7⟩
    rw [← hok, okF_eq, hb7]; simp
   rintro mv w7 ⟨k7, hno, Lm, Bm, hBm, hpm⟩
   ((refine AB ?_; refine At ?_))
   repeat' first | refine nx rfl ?_ | fail
   refine AA (At ?_)
   refine AR (reverse_ok w7 p Bm mv Lm _ hpm) rfl ?_
   rintro _ w8 ⟨hpr, k8⟩
   repeat' first | refine nx rfl ?_ | fail
   refine AA (Ak rfl (At ?_))
   have z7 := k7.size
   have z8 := k8.size
   have hmge : ∀ y, mv.ownBlock = some y → w6.heap.size ≤ y := fun y hy => by have := (hpm.ge hy).1; omega
   have hk8 : ∀ y, y < w6.heap.size → y ∉ mv.ownBlock.toList := fun y hy hx => by have := hmge y (Option.mem_toList.1 hx); omega
   have k68 : Ext w6 w8 := k7.keep k8 (fun y hy => hmge y (Option.mem_toList.1 hy))
   have hps8 := (hps4.ext k5).ext k68
   have hwb8 := (hwb4.ext k5).ext k68
   have hwr8 := (hwr4.ext k5).ext k68
   have hst8 := (hst4.keep k5 (by simp)).keep k68 (by simp)
   have hlp := wt_len ps'
   have hwp := wt_pcs (f := f') s n
   have hlm := wt_len (pcs s n f').reverse
   rw [sumP_rev] at hlm
   simp only [pcWt] at hwp
   refine CF (ok := Aw) (v := .slice (some ⟨g, 0, none⟩) ps'.length cap) rfl rfl hps8.own (BC hpr.own fun _ _ => trivial) (by omega) rfl hpr.rs.flat hpr.rs.oneC (by omega) (by omega) (by have := hwr8.keep.size; omega) (fun v9 w9 a9 => ?_)
   have z9 := a9.keep.size
   have hps9 : PS p w.heap.size v9 (L' ++ Lm.reverse) (ps' ++ (pcs s n f').reverse) w9 := hps8.app a9 hpr.rs
   ((refine AB ?_; refine At ?_))
   repeat' first | refine nx rfl ?_ | fail
   have hgX : ∀ y, (Value.slice (some ⟨g, 0, none⟩) ps'.length cap).ownBlock = some y → y = g := fun y hy => by simpa [Value.ownBlock] using hy.symm
   have hg1 : w.heap.size ≤ g ∧ g < w4.heap.size := hps4.ge rfl
   have hgk : Keep [g] w8 w9 := a9.keep.mono (fun x hx => by simpa using hgX x (Option.mem_toList.1 hx))
   refine ⟨(v9, L' ++ Lm.reverse, ps' ++ (pcs s n f').reverse, v1, t1), ⟨rfl, ⟨rfl, rfl, rfl, trivial⟩, ⟨⟨hwr8.keep.trans hgk ?_, hwr8.blk⟩, hwb8.keep hgk ?_ ?_, hps9, ?_, hst8.keep hgk ?_, ⟨?_, hr2, ?_⟩, ?_, ?_, ?_, ?_, ?_⟩⟩, ?_⟩
   ·intro x hx hlt
    simp at hx; omega
   ·simp; omega
   ·intro y hy hx
    simp at hx; subst hx
    exact hne y rfl hy
   ·intro y hy h2
    rcases a9.blk with e | e
    ·rw [e] at hy; exact hne y hy h2
    ·rw [e] at hy
     have hy : w8.heap.size = y := by simpa using hy
     have := (hwb8.ge h2).2; omega
   ·simp
    intro e
    exact hr1 (by simp [Value.ownBlock, e])
   ·intro e2
    rcases a9.blk with e | e
    ·rw [e] at e2; exact hr1 e2
    ·rw [e] at e2
     have e2 : w8.heap.size = r := by simpa using e2
     omega
   ·omega
   ·intro x hx
    rcases List.mem_append.1 hx with hx | hx
    ·exact hfit' x hx
    ·exact fit_pcs hs hfq.2 x (List.mem_reverse.1 hx)
   ·simp only
    rw [List.reverse_append, List.reverse_reverse, List.flatMap_append, out_pcs hs]
    exact hout
   ·simp only
    rw [List.all_append, List.all_reverse, ok_pcs, ← hok, okF_eq, hno, Bool.true_and]
   ·simp only
    rw [CK, sumP_rev]
    have := pot_pcs (s := s) (n := n) hno
    simp only [Cm] at this
    omega
   ·simp only
    rw [CK, sumP_rev]; omega
   ·simp only
    rw [CK, sumP_rev, CK, CQ, sumP_nil]
    simp only [pcWt]
    omega
end Go.Proofs.YtfcgdbmoncnibaaGreatDoor
namespace Go.Proofs.YtfcgdbmoncnibaaGreatDoor
open Go.RowKit
set_option linter.unusedVariables false
def PA {α : Type} (R : Rp α) (ok : Nat → Prop) (w : World) (b o : Nat) (a : α) : Prop := ok b ∧ ∃ d : List Value, Cells w b o d ∧ R.fits ok w d a
theorem PA.keep {α : Type} {R : Rp α} {ok : Nat → Prop} {X : List Nat} {w w' : World} {b o : Nat} {a : α} (h : PA R ok w b o a) (k : Keep X w w') (hX : ∀ b, ok b → b ∉ X) : PA R ok w' b o a := by
 obtain ⟨hb, d, hc, hf⟩ := h
 exact ⟨hb, d, hc.keep k (hX b hb), R.keep hf k hX⟩
theorem PA.mono {α : Type} {R : Rp α} {ok ok' : Nat → Prop} {w : World} {b o : Nat} {a : α} (h : PA R ok w b o a) (hk : ∀ b, ok b → ok' b) : PA R ok' w b o a := by
 obtain ⟨hb, d, hc, hf⟩ := h
 exact ⟨hk b hb, d, hc, R.mono hf hk⟩
theorem Wrote.old {p : Nat} {v v' : Value} {w w' : World} {t : List UInt8} (_h : Wrote p v v' w w') (hw : WrB w p v t) : ∀ b, b < p → b ∉ p :: v.ownBlock.toList := fun b hb hx => by
 rcases List.mem_cons.1 hx with e | e
 ·omega
 ·have := (hw.ge (Option.mem_toList.1 e)).1; omega
theorem Wrote.gp {p : Nat} {v v' : Value} {w w' : World} {t : List UInt8} (h : Wrote p v v' w w') (hw : WrB w p v t) (hG : GP w) (hp : 10 ≤ p) : GP w' := hG.keep h.keep (by
 intro x hx
 rcases List.mem_cons.1 hx with rfl | hx
 ·exact hp
 ·have := (hw.ge (Option.mem_toList.1 hx)).1; omega)
theorem PA.wrote {α : Type} {R : Rp α} {w w' : World} {b o p : Nat} {a : α} {v v' : Value} {t : List UInt8} (h : PA R (fun b => b < p) w b o a) (k : Wrote p v v' w w') (hw : WrB w p v t) : PA R (fun b => b < p) w' b o a := h.keep k.keep (k.old hw)
theorem B4 {w0 w : World} {p : Nat} {v : Value} {t : List UInt8} {parts : List (List UInt8)} (h : WrB w0 p v t) (n : New w0 w 9 (parts.map AM)) (hn : parts.length ≤ 16) (hl : t.length + parts.flatten.length ≤ 140737488355328) :
  Fn Tryz.prog 75 [pt p, .slice (some ⟨w0.heap.size, 0, none⟩) parts.length parts.length] w fun _ w' => ∃ v', WrB w' p v' (t ++ parts.flatten) ∧ Wrote p v v' w0 w' := by
 have z := n.size
 refine Fn.mono (put_ok w p v _ t parts (h.ext n.keep) ⟨_, _, rfl, Nat.le_refl _, by omega, (fun h => by cases h), .inr ⟨_, _, rfl, ⟨by omega, ?_, ?_⟩, n.blk.cells⟩⟩ hl) ?_
 ·have := h.lt; omega
 ·intro e; have := (h.ge e).2; omega
 ·rintro _ w' ⟨v', h1, h2⟩
  exact ⟨v', h1, Wrote.trans ⟨n.keep.any, fun y hy => .inl hy⟩ h2⟩
def reqT (r : Rqm) : List UInt8 := (if r.kind = 1 then [97, 115, 115, 117, 109, 101, 32] else [103, 117, 97, 114, 97, 110, 116, 101, 101, 32]) ++ (r.name ++ [58, 32]) ++ prF 0 r.formula
def okR (r : Rqm) : Bool := (decide (r.kind = 1) || decide (r.kind = 2)) && BW r.name && okF r.formula
def WAns (p : Nat) (v : Value) (t s : List UInt8) (ok : Bool) (w w' : World) : Prop := ok = true ∧ ∃ v', WrB w' p v' (t ++ s) ∧ Wrote p v v' w w'
def WPan (p : Nat) (v : Value) (ok : Bool) (w : World) (ch : List PanicEntry) (w' : World) : Prop := ch = unp ∧ ok = false ∧ ∃ v', Wrote p v v' w w'
set_option maxHeartbeats 1600000 in
theorem wreq_ok (w : World) (p b o : Nat) (v : Value) (t : List UInt8) (r : Rqm) (hw : WrB w p v t) (hf : PA reqR (fun b => b < p) w b o r) (hG : GP w) (hp : 10 ≤ p) (hz : szF r.formula ≤ 1000000) (hl : t.length ≤ 999999000) :
  FnP Tryz.prog 84 [pt p, .pointer (some ⟨b, o, none⟩)] w (fun _ w' => WAns p v t (reqT r) (okR r) w w') (WPan p v (okR r) w) := by
 obtain ⟨hb, d, hcl, d5, rfl, hd5, hfa⟩ := id hf
 have h2 : w.cell? ⟨b, o + 2, none⟩ = some (.int .i64 r.kind) := hcl 2 _ rfl
 refine Ap Tryz.func84 rfl Tryz.ntmps84 (Nat.le_of_ble_eq_true rfl) (by kernel_rfl) ?_
 repeat' first | refine nx rfl ?_ | fail
 (refine AA (AP rfl (AJ rfl (AD rfl ?_))) <;> refine AG rfl (by assumption) ?_ <;> refine AE ?_)
 repeat' first | refine AE ?_ | refine Cd ?_ | refine Co ?_
 refine Bv (α := Value) (fun _ => [(0, pt p), (1, .pointer (some ⟨b, o, none⟩))]) (fun v1 W => (r.kind = 1 ∨ r.kind = 2) ∧ WrB W p v1 (t ++ (if r.kind = 1 then [97, 115, 115, 117, 109, 101, 32] else [103, 117, 97, 114, 97, 110, 116, 101, 101, 32])) ∧ Wrote p v v1 w W) ?_ ?_
 ·repeat' first | refine nx rfl ?_ | fail
  by_cases h1 : r.kind = 1
  ·(refine AA ?_ <;> (refine AH rfl rfl (fun hc => ?_) (fun hc => ?_) <;> try omega) <;> refine AB (AC rfl ?_))
   repeat' first | refine nx rfl ?_ | fail
   refine AA (AP rfl ?_)
   refine AV (out := [AM [97, 115, 115, 117, 109, 101, 32]]) rfl (by omega) (by kernel_rfl) (fun w1 n1 => ?_)
   refine AR (B4 (parts := [[97, 115, 115, 117, 109, 101, 32]]) hw n1 (by simp) (by simp; omega)) rfl ?_
   rintro _ w2 ⟨v2, hw2, k2⟩
   repeat' first | refine nx rfl ?_ | fail
   refine Am v2 ⟨rfl, rfl, trivial⟩ ⟨.inl h1, ?_, k2⟩
   rw [if_pos h1]; exact hw2
  ·(refine AA ?_ <;> (refine AH rfl rfl (fun hc => ?_) (fun hc => ?_) <;> try omega) <;> refine AB (AC rfl ?_))
   repeat' first | refine nx rfl ?_ | refine nf rfl ?_
   by_cases h22 : r.kind = 2
   ·(refine AA ?_ <;> (refine AH rfl rfl (fun hc => ?_) (fun hc => ?_) <;> try omega) <;> refine AB (AC rfl ?_))
    repeat' first | refine nx rfl ?_ | fail
    refine AA (AP rfl ?_)
    refine AV (out := [AM [103, 117, 97, 114, 97, 110, 116, 101, 101, 32]]) rfl (by omega) (by kernel_rfl) (fun w1 n1 => ?_)
    refine AR (B4 (parts := [[103, 117, 97, 114, 97, 110, 116, 101, 101, 32]]) hw n1 (by simp) (by simp; omega)) rfl ?_
    rintro _ w2 ⟨v2, hw2, k2⟩
    repeat' first | refine nx rfl ?_ | fail
    refine Am v2 ⟨rfl, rfl, trivial⟩ ⟨.inr h22, ?_, k2⟩
    rw [if_neg h1]; exact hw2
   ·(refine AA ?_ <;> (refine AH rfl rfl (fun hc => ?_) (fun hc => ?_) <;> try omega) <;> refine AB (AC rfl ?_))
    repeat' first | refine nx rfl ?_ | refine nf rfl ?_
    (refine AA ?_)
    refine AZ (Bh w false) rfl ?_ ?_
    ·rintro v w6 ⟨_, hb, _⟩; cases hb
    rintro ch w6 ⟨rfl, _, rfl⟩
    repeat' first | refine nx rfl ?_ | fail
    refine AY ⟨rfl, ?_, v, Wrote.refl _ _ _⟩
    simp [okR, h1, h22]
 rintro v1 w1 f1 ⟨hk, hw1, k1⟩
 have hkd : (decide (r.kind = 1) || decide (r.kind = 2)) = true := by simpa using hk
 have hf1 := hf.wrote k1 hw
 obtain ⟨_, d', hcl', d6, rfl, hd6, hfa'⟩ := id hf1
 have h11 : w1.cell? ⟨b, o + 1, none⟩ = some (AM r.name) := hcl' 1 _ rfl
 have hG1 := k1.gp hw hG hp
 repeat' first | refine nx rfl ?_ | fail
 (refine AA (AP rfl (AP rfl (AJ rfl (AD rfl ?_)))) <;> refine AG rfl (by assumption) ?_)
 refine AZ (wname_ok w1 r.name hG1.gk) rfl ?_ ?_
 rotate_left
 ·rintro ch w2 ⟨rfl, hb, rfl⟩
  repeat' first | refine nx rfl ?_ | fail
  exact AY ⟨rfl, by simp [okR, hb], v1, k1⟩
 rintro _ w2 ⟨rfl, hnm, rfl⟩
 have hnl := (BB hnm).2.1
 refine AV (out := [AM r.name, AM [58, 32]]) rfl (by omega) (by kernel_rfl) (fun w3 n3 => ?_)
 refine AR (B4 (parts := [r.name, [58, 32]]) hw1 n3 (by simp) (by split <;> simp <;> omega)) rfl ?_
 rintro _ w4 ⟨v4, hw4, k4⟩
 repeat' first | refine nx rfl ?_ | fail
 have k14 := k1.trans k4
 have hf4 := hf1.wrote k4 hw1
 obtain ⟨_, d', hcl4, d7, rfl, hd7, hfa4⟩ := id hf4
 have hpf : PF (fun b => b < p) w4 b (o + 3) r.formula := ⟨hb, d7, hd7, fun i u hu => by
  have := hcl4 (3 + i) u (by rw [List.getElem?_append_right (by simp)]; simpa using hu)
  rw [← Nat.add_assoc] at this
  exact this, hfa4⟩
 refine AA (AP rfl (AP rfl (AJ rfl (AD rfl ?_))))
 refine AZ (wformula_ok w4 p b (o + 3) v4 _ r.formula hw4 hpf (k4.gp hw1 hG1 hp) hp hz (by split <;> simp <;> omega)) rfl ?_ ?_
 rotate_left
 ·rintro ch w5 ⟨rfl, hb5, v5, k5⟩
  repeat' first | refine nx rfl ?_ | fail
  exact AY ⟨rfl, by simp [okR, hb5], v5, k14.trans k5⟩
 rintro _ w5 ⟨hok5, v5, hw5, k5⟩
 repeat' first | refine nx rfl ?_ | fail
 refine Au rfl ⟨by simp only [okR, hkd, hnm, hok5, Bool.and_self], v5, ?_, k14.trans k5⟩
 have e : t ++ reqT r = t ++ (if r.kind = 1 then [97, 115, 115, 117, 109, 101, 32] else [103, 117, 97, 114, 97, 110, 116, 101, 101, 32]) ++ [r.name, [58, 32]].flatten ++ prF 0 r.formula := by simp [reqT]
 rw [e]
 exact hw5
end Go.Proofs.YtfcgdbmoncnibaaGreatDoor
