/- The printer: signals and specifications, walked. The printer: a specification, walked. The printer: an edit, walked. The printer: what is written, or nothing. The printer's laws: the fixed examples answer as they should. The printer's laws: what printing answers, in short. Conditions: none. -/
import Derived.Test.YtfcgdbmoncnibaaGreatDoorZA10

namespace Go.Proofs.YtfcgdbmoncnibaaGreatDoor
open Go.RowKit
set_option linter.unusedVariables false
def sgnT (x : Sgn) : List UInt8 := (if x.input then [105, 110, 112, 117, 116, 32] else [111, 117, 116, 112, 117, 116, 32]) ++ x.name ++ (if x.size = 2 then [] else [58, 32] ++ numT x.size) ++ [59, 10]
def okS (x : Sgn) : Bool := BW x.name && numB x.size
set_option maxHeartbeats 1600000 in
theorem wsig_ok (w : World) (p : Nat) (v : Value) (t : List UInt8) (x : Sgn) (hw : WrB w p v t) (hG : GP w) (hp : 10 ≤ p) (hl : t.length ≤ 999999000) :
  FnP Tryz.prog 82 [pt p, .agg (B7 x).toArray] w (fun _ w' => WAns p v t (sgnT x) (okS x) w w') (WPan p v (okS x) w) := by
 refine Ap Tryz.func82 rfl Tryz.ntmps82 (Nat.le_of_ble_eq_true rfl) (by kernel_rfl) ?_
 repeat' first | refine nx rfl ?_ | fail
 (refine AA ?_; refine BL (L := B7 x) rfl (fun w1 n1 => ?_))
 have k1 := n1.keep
 have b1 := n1.blk
 have hw1 := hw.ext k1
 have hwr1 : Wrote p v v w w1 := ⟨k1.any, fun y hy => .inl hy⟩
 have hG1 := hG.ext k1
 repeat' first | refine nx rfl ?_ | fail
 refine AA (AB (AT rfl ?_))
 repeat' first | refine nx rfl ?_ | fail
 have h1 : w1.cell? ⟨w.heap.size, 0 + 1, none⟩ = some (.bool x.input) := b1.cell rfl
 have h0 : w1.cell? ⟨w.heap.size, 0 + 0, none⟩ = some (AM x.name) := b1.cell rfl
 (refine AA (AD rfl ?_) <;> refine AG rfl (Blk.cell (by assumption) (by rfl)) ?_ <;> refine AE ?_)
 repeat' first | refine AE ?_ | refine Cd ?_ | refine Co ?_
 refine Bv (α := Unit) (fun _ => [(0, pt p), (3, pt w.heap.size), (4, AM (if x.input then [105, 110, 112, 117, 116, 32] else [111, 117, 116, 112, 117, 116, 32]))]) (fun _ W => w1 = W) ?_ ?_
 ·cases hi : x.input with
  | true =>
   repeat' first | refine nx rfl ?_ | fail
   refine AA (AB (AT rfl ?_))
   repeat' first | refine nx rfl ?_ | fail
   exact Am () ⟨rfl, rfl, rfl, trivial⟩ rfl
  | false =>
   repeat' first | refine nx rfl ?_ | refine nf rfl ?_
   exact Am () ⟨rfl, rfl, rfl, trivial⟩ rfl
 rintro _ _ f1 rfl
 generalize hkd : (if x.input then [105, 110, 112, 117, 116, 32] else [111, 117, 116, 112, 117, 116, 32] : List UInt8) = kd
 have hkl : kd.length ≤ 7 := by rw [← hkd]; split <;> simp
 repeat' first | refine nx rfl ?_ | fail
 (refine AA (AP rfl (AT rfl (AD rfl ?_))) <;> refine AG rfl (Blk.cell (by assumption) (by rfl)) ?_)
 refine AZ (wname_ok w1 x.name hG1.gk) rfl ?_ ?_
 rotate_left
 ·rintro ch w2 ⟨rfl, hb, rfl⟩
  repeat' first | refine nx rfl ?_ | fail
  exact AY ⟨rfl, by simp [okS, hb], v, hwr1⟩
 rintro _ w2 ⟨rfl, hnm, rfl⟩
 have hnl := (BB hnm).2.1
 refine AV (out := [AM kd, AM x.name]) rfl (by omega) (by kernel_rfl) (fun w3 n3 => ?_)
 refine AR (B4 (parts := [kd, x.name]) hw1 n3 (by simp) (by simp; omega)) rfl ?_
 rintro _ w4 ⟨v4, hw4, k4⟩
 repeat' first | refine nx rfl ?_ | fail
 have k14 := hwr1.trans k4
 have hG4 := k4.gp hw1 hG1 hp
 have hpl := hw1.lt
 have hx4 : w.heap.size ∉ p :: v.ownBlock.toList := fun hx => by
  rcases List.mem_cons.1 hx with e | e
  ·have := hw.lt; omega
  ·have := (hw.ge (Option.mem_toList.1 e)).2; omega
 have b4 := b1.keep k4.keep hx4
 have h2 : w4.cell? ⟨w.heap.size, 0 + 2, none⟩ = some (.int .i64 x.size) := b4.cell rfl
 (refine AA (AD rfl ?_) <;> refine AG rfl (Blk.cell (by assumption) (by rfl)) ?_)
 refine AZ (wnumber_ok w4 x.size hG4) rfl ?_ ?_
 rotate_left
 ·rintro ch w5 ⟨rfl, hb, rfl⟩
  repeat' first | refine nx rfl ?_ | fail
  exact AY ⟨rfl, by simp [okS, hb], v4, k14⟩
 rintro _ w5 ⟨rfl, hnb, k5⟩
 have hnb2 := hnb
 simp only [numB, Bool.and_eq_true, decide_eq_true_eq] at hnb2
 have hnn := CB (n := x.size) (by omega)
 have h25 := k5.cell h2 (by simp)
 have hw5 := hw4.ext k5
 have k15 := k14.ext k5
 ((refine AB ?_; refine AT rfl ?_))
 repeat' first | refine nx rfl ?_ | fail
 have hmid : ∀ (fr : Fr) (Q' : CG) (ds : DS) (v6 : Value) (w6 : World), True := fun _ _ _ _ _ => trivial
 clear hmid
 by_cases hs2 : x.size = 2
 ·(refine AA (AD rfl ?_) <;> refine AG rfl (by assumption) ?_ <;> (refine CZ rfl rfl (fun hc => ?_) (fun hc => ?_) <;> try omega))
  repeat' first | refine nx rfl ?_ | refine nf rfl ?_
  refine AA (AP rfl ?_)
  refine AV (out := [AM [59, 10]]) rfl (by omega) (by kernel_rfl) (fun w6 n6 => ?_)
  refine AR (B4 (parts := [[59, 10]]) hw5 n6 (by simp) (by simp; omega)) rfl ?_
  rintro _ w7 ⟨v7, hw7, k7⟩
  repeat' first | refine nx rfl ?_ | fail
  refine Au rfl ⟨by simp only [okS, hnm, hnb, Bool.and_self], v7, ?_, k15.trans k7⟩
  have e : t ++ sgnT x = t ++ [kd, x.name].flatten ++ [[59, 10]].flatten := by simp [sgnT, hkd, hs2]
  rw [e]
  exact hw7
 ·(refine AA (AD rfl ?_) <;> refine AG rfl (by assumption) ?_ <;> (refine CZ rfl rfl (fun hc => ?_) (fun hc => ?_) <;> try omega))
  repeat' first | refine nx rfl ?_ | fail
  refine AA (AP rfl (AT rfl ?_))
  refine AV (out := [AM [58, 32], AM (numT x.size)]) rfl (by omega) (by kernel_rfl) (fun w6 n6 => ?_)
  refine AR (B4 (parts := [[58, 32], numT x.size]) hw5 n6 (by simp) (by simp; omega)) rfl ?_
  rintro _ w7 ⟨v7, hw7, k7⟩
  repeat' first | refine nx rfl ?_ | fail
  refine AA (AP rfl ?_)
  refine AV (out := [AM [59, 10]]) rfl (by omega) (by kernel_rfl) (fun w8 n8 => ?_)
  refine AR (B4 (parts := [[59, 10]]) hw7 n8 (by simp) (by simp; omega)) rfl ?_
  rintro _ w9 ⟨v9, hw9, k9⟩
  repeat' first | refine nx rfl ?_ | fail
  refine Au rfl ⟨by simp only [okS, hnm, hnb, Bool.and_self], v9, ?_, (k15.trans k7).trans k9⟩
  have e : t ++ sgnT x = t ++ [kd, x.name].flatten ++ [[58, 32], numT x.size].flatten ++ [[59, 10]].flatten := by simp [sgnT, hkd, hs2]
  rw [e]
  exact hw9
def rqI (l : List Rqm) (i : Nat) : List UInt8 := match l[i]? with
 | none => []
 | some r => (if i = 0 ∨ (l[i - 1]?).map (·.part) ≠ some r.part then [112, 97, 114, 116, 32] ++ (r.part ++ [32, 123, 10]) else []) ++ ([32, 32] ++ (reqT r ++ ([59, 10] ++ (if i + 1 = l.length ∨ (l[i + 1]?).map (·.part) ≠ some r.part then [125, 10] else []))))
def okRq (r : Rqm) : Bool := BW r.part && okR r
def rqsT (l : List Rqm) : List UInt8 := (List.range l.length).flatMap (rqI l)
def spcT (s : Spc) : List UInt8 := s.sigs.flatMap sgnT ++ rqsT s.reqs
def Cr (s : Spc) : Bool := s.sigs.all okS && s.reqs.all okRq
def szR (l : List Rqm) : Nat := (l.map fun r => szF r.formula + 4).sum
def szS (s : Spc) : Nat := s.sigs.length + szR s.reqs
theorem sgnT_len {x : Sgn} (h : okS x = true) : (sgnT x).length ≤ 44 := by
 simp only [okS, numB, Bool.and_eq_true, decide_eq_true_eq] at h
 have h1 := (BB h.1).2.1
 have h2 := CB (n := x.size) (by omega)
 unfold sgnT
 simp only [List.length_append]
 have h3 : (if x.input then [105, 110, 112, 117, 116, 32] else [111, 117, 116, 112, 117, 116, 32] : List UInt8).length ≤ 7 := by split <;> simp
 have h4 : (if x.size = 2 then [] else [58, 32] ++ numT x.size : List UInt8).length ≤ 6 := by split <;> simp; omega
 have h5 : ([59, 10] : List UInt8).length = 2 := rfl
 omega
theorem reqT_len {r : Rqm} (h : okR r = true) : (reqT r).length ≤ 44 * szF r.formula + 20 := by
 simp only [okR, Bool.and_eq_true] at h
 have h1 := (BB h.1.2).2.1
 have h2 := prF_len _ r.formula (Nat.le_refl _) h.2 0
 have h0 := Cw r.formula
 unfold reqT
 simp only [List.length_append]
 have h3 : (if r.kind = 1 then [97, 115, 115, 117, 109, 101, 32] else [103, 117, 97, 114, 97, 110, 116, 101, 101, 32] : List UInt8).length ≤ 10 := by split <;> simp
 have h5 : ([58, 32] : List UInt8).length = 2 := rfl
 omega
theorem rqI_len {l : List Rqm} {i : Nat} {r : Rqm} (hr : l[i]? = some r) (h : okRq r = true) : (rqI l i).length ≤ 44 * (szF r.formula + 4) := by
 simp only [okRq, Bool.and_eq_true] at h
 have h1 := (BB h.1).2.1
 have h2 := reqT_len h.2
 unfold rqI
 rw [hr]
 simp only [List.length_append]
 have h3 : (if i = 0 ∨ (l[i - 1]?).map (·.part) ≠ some r.part then [112, 97, 114, 116, 32] ++ (r.part ++ [32, 123, 10]) else [] : List UInt8).length ≤ 20 := by split <;> simp; omega
 have h4 : (if i + 1 = l.length ∨ (l[i + 1]?).map (·.part) ≠ some r.part then [125, 10] else [] : List UInt8).length ≤ 2 := by split <;> simp
 have h5 : ([32, 32] : List UInt8).length = 2 := rfl
 have h6 : ([59, 10] : List UInt8).length = 2 := rfl
 omega
theorem szR_take {l : List Rqm} {i : Nat} {r : Rqm} (hr : l[i]? = some r) : szR (l.take (i + 1)) = szR (l.take i) + (szF r.formula + 4) := by
 rw [List.take_add_one, hr]; simp [szR]
theorem szR_le (l : List Rqm) (i : Nat) : szR (l.take i) ≤ szR l := by
 have : szR l = szR (l.take i) + szR (l.drop i) := by
  unfold szR
  rw [← List.sum_append, ← List.map_append, List.take_append_drop]
 omega
theorem szR_len : ∀ l : List Rqm, l.length ≤ szR l
 | [] => by simp
 | r :: l => by have := szR_len l; simp only [szR, List.map_cons, List.sum_cons, List.length_cons] at this ⊢; omega
theorem rqs_len (l : List Rqm) : ∀ k, k ≤ l.length → (l.take k).all okRq = true → ((List.range k).flatMap (rqI l)).length ≤ 44 * szR (l.take k)
 | 0, _, _ => by simp
 | k + 1, hk, h => by
  obtain ⟨r, hr⟩ : ∃ r, l[k]? = some r := ⟨_, List.getElem?_eq_getElem (by omega)⟩
  have e : l.take (k + 1) = l.take k ++ [r] := by rw [List.take_add_one, hr]; rfl
  rw [e, List.all_append, Bool.and_eq_true] at h
  have ih := rqs_len l k (by omega) h.1
  have h2 := rqI_len hr (by simpa using h.2)
  rw [szR_take hr, List.range_succ, List.flatMap_append, List.length_append]
  simp only [List.flatMap_cons, List.flatMap_nil, List.append_nil]
  omega
end Go.Proofs.YtfcgdbmoncnibaaGreatDoor
namespace Go.Proofs.YtfcgdbmoncnibaaGreatDoor
open Go.RowKit
set_option linter.unusedVariables false
theorem sigs_len : ∀ l : List Sgn, l.all okS = true → (l.flatMap sgnT).length ≤ 44 * l.length
 | [], _ => by simp
 | x :: l, h => by
  rw [List.all_cons, Bool.and_eq_true] at h
  have h1 := sgnT_len h.1
  have h2 := sigs_len l h.2
  rw [List.flatMap_cons, List.length_append, List.length_cons]; omega
structure SpV (w : World) (p b o : Nat) (s : Spc) (sa ra : Option Addr) (sc rc : Nat) (LS LR : List (List Value)) : Prop where
 lt : b < p
 c0 : w.cell? ⟨b, o + 0, none⟩ = some (.slice sa s.sigs.length sc)
 c1 : w.cell? ⟨b, o + 1, none⟩ = some (.slice ra s.reqs.length rc)
 ss : Sl (fun b => b < p) w (.slice sa s.sigs.length sc) s.sigs.length LS.flatten
 sr : RsAt sgnR (fun b => b < p) w LS s.sigs
 rs : Sl (fun b => b < p) w (.slice ra s.reqs.length rc) s.reqs.length LR.flatten
 rr : RsAt reqR (fun b => b < p) w LR s.reqs
theorem SpV.keep {X : List Nat} {w w' : World} {p b o : Nat} {s : Spc} {sa ra : Option Addr} {sc rc : Nat} {LS LR : List (List Value)} (h : SpV w p b o s sa ra sc rc LS LR) (k : Keep X w w') (hX : ∀ b, b < p → b ∉ X) : SpV w' p b o s sa ra sc rc LS LR :=
 ⟨h.lt, k.cell h.c0 (hX b h.lt), k.cell h.c1 (hX b h.lt), h.ss.keep k hX, h.sr.keep k hX, h.rs.keep k hX, h.rr.keep k hX⟩
theorem SpV.ext {w w' : World} {p b o : Nat} {s : Spc} {sa ra : Option Addr} {sc rc : Nat} {LS LR : List (List Value)} (h : SpV w p b o s sa ra sc rc LS LR) (k : Ext w w') : SpV w' p b o s sa ra sc rc LS LR := h.keep k fun _ _ => by simp
theorem SpV.wrote {w w' : World} {p b o : Nat} {s : Spc} {sa ra : Option Addr} {sc rc : Nat} {LS LR : List (List Value)} {v v' : Value} {t : List UInt8} (h : SpV w p b o s sa ra sc rc LS LR) (k : Wrote p v v' w w') (hw : WrB w p v t) : SpV w' p b o s sa ra sc rc LS LR := h.keep k.keep (k.old hw)
theorem Sl.row {α : Type} {R : Rp α} {ok : Nat → Prop} {w : World} {a : Option Addr} {n c k : Nat} {l : List α} {L : List (List Value)} {d : List Value} (hS : Sl ok w (.slice a n c) n L.flatten) (hR : RsAt R ok w L l) (hd : L[k]? = some d) (hk : k < n) : ∃ b o, a = some ⟨b, o, none⟩ ∧ ok b ∧ Cells w b (o + k * R.size) d := by
 obtain ⟨a', c', e, _, _, _, h⟩ := hS
 cases e
 rcases h with h0 | ⟨b, o, rfl, hb, hc⟩
 ·omega
 ·refine ⟨b, o, rfl, hb, fun j u hu => ?_⟩
  have := hc (k * R.size + j) u (C2 R.size L k j d u hR.len hd hu)
  rw [← Nat.add_assoc] at this
  exact this
set_option maxHeartbeats 1600000 in
theorem wspec_ok (w : World) (p b o : Nat) (v : Value) (t : List UInt8) (s : Spc) (hw : WrB w p v t) (hf : PA spcR (fun b => b < p) w b o s) (hG : GP w) (hp : 10 ≤ p) (hz : szS s ≤ 1000000) (hl : t.length ≤ 100000000) :
  FnP Tryz.prog 47 [pt p, .pointer (some ⟨b, o, none⟩)] w (fun _ w' => WAns p v t (spcT s) (Cr s) w w') (WPan p v (Cr s) w) := by
 obtain ⟨sa, sc, ra, rc, LS, LR, hV⟩ : ∃ sa sc ra rc LS LR, SpV w p b o s sa ra sc rc LS LR := by
  obtain ⟨hb, d, hcl, sv, rv, rfl, ⟨sa, sc, LS, rfl, h1, h2⟩, ⟨ra, rc, LR, rfl, h3, h4⟩⟩ := id hf
  exact ⟨sa, sc, ra, rc, LS, LR, hb, hcl 0 _ rfl, hcl 1 _ rfl, h1, h2, h3, h4⟩
 clear hf
 have hsl : s.sigs.length ≤ 1000000 := by unfold szS at hz; omega
 have hrz : szR s.reqs ≤ 1000000 := by unfold szS at hz; omega
 have hrl := szR_len s.reqs
 refine Ap Tryz.func47 rfl Tryz.ntmps47 (Nat.le_of_ble_eq_true rfl) (by kernel_rfl) ?_
 repeat' first | refine nx rfl ?_ | fail
 have c0 := hV.c0
 (refine AA (AP rfl (AJ rfl (AD rfl ?_))) <;> refine AG rfl (by assumption) ?_ <;> refine Ao rfl (AI rfl (AE ?_)))
 repeat' first | refine AE ?_ | refine Cd ?_ | refine Co ?_
 refine Bv (α := Value) (fun _ => [(0, pt p), (1, .pointer (some ⟨b, o, none⟩))]) (fun v1 W => s.sigs.all okS = true ∧ WrB W p v1 (t ++ s.sigs.flatMap sgnT) ∧ Wrote p v v1 w W) ?_ ?_
 ·repeat' first | refine nx rfl ?_ | fail
  refine BE (α := Nat × Value) (fun x => [(0, pt p), (1, .pointer (some ⟨b, o, none⟩)), (11, .slice sa s.sigs.length sc), (12, .int .i64 (s.sigs.length : Int)), (13, .int .i64 (x.1 : Int))])
   (fun x W => x.1 ≤ s.sigs.length ∧ (s.sigs.take x.1).all okS = true ∧ WrB W p x.2 (t ++ (s.sigs.take x.1).flatMap sgnT) ∧ Wrote p v x.2 w W) (fun x => s.sigs.length - x.1) (0, v) ⟨rfl, rfl, rfl, rfl, rfl, trivial⟩ ⟨by simp, by simp, by simpa using hw, Wrote.refl _ _ _⟩ ?_
  rintro ⟨k, v1⟩ w1 f1 ⟨hk, hok, hw1, k1⟩
  simp only at hk hok hw1 k1 ⊢
  repeat' first | refine nx rfl ?_ | fail
  by_cases hlt : k < s.sigs.length
  ·(refine AA ?_ <;> (refine As rfl rfl (fun hc => ?_) (fun hc => ?_) <;> try omega))
   repeat' first | refine nx rfl ?_ | fail
   obtain ⟨x, hx⟩ : ∃ x, s.sigs[k]? = some x := ⟨_, List.getElem?_eq_getElem hlt⟩
   have hV1 := hV.wrote k1 hw
   obtain ⟨d, hd⟩ : ∃ d, LS[k]? = some d := ⟨_, List.getElem?_eq_getElem (by rw [hV.sr.1]; exact hlt)⟩
   obtain ⟨bs, os, rfl, hbs, hcs⟩ := hV1.ss.row hV1.sr hd hlt
   have hdx : d = B7 x := hV1.sr.2 k d x hd hx
   subst hdx
   (refine AA ?_)
   refine BP (k := k) rfl rfl rfl (by omega) ?_
   refine AU (L := B7 x) rfl rfl hcs ?_
   refine A7 (cs := B7 x) rfl rfl (by rfl) (sgnR.one (ok := Aw) (w := w) (a := x) rfl) (fun w2 n2 => ?_)
   repeat' first | refine nx rfl ?_ | fail
   (refine AA ?_; refine AP rfl ?_; refine AW (L := B7 x) rfl n2.blk rfl ?_)
   have hw2 := hw1.ext n2.keep
   have k2 := k1.ext n2.keep
   have hsl1 := sigs_len _ hok
   have htk : (s.sigs.take k).length ≤ 1000000 := by simp; omega
   refine AZ (wsig_ok w2 p v1 _ x hw2 (k2.gp hw hG hp) hp (by rw [List.length_append]; omega)) rfl ?_ ?_
   rotate_left
   ·rintro ch w3 ⟨rfl, hb3, v3, k3⟩
    repeat' first | refine nx rfl ?_ | fail
    refine AY ⟨rfl, ?_, v3, k2.trans k3⟩
    have : s.sigs.all okS = false := by
     rw [← Bool.not_eq_true, List.all_eq_true]
     intro h
     have := h x (List.mem_of_getElem? hx)
     rw [hb3] at this; cases this
    simp [Cr, this]
   rintro _ w3 ⟨hok3, v3, hw3, k3⟩
   repeat' first | refine nx rfl ?_ | fail
   (refine AA ?_ <;> refine BD rfl rfl (by first | exact Ah (by omega) (by omega) | exact Aq (by omega) (by omega) | exact Ai (by omega) (by omega)) ?_ <;> refine AI rfl ?_)
   repeat' first | refine nx rfl ?_ | fail
   have e : s.sigs.take (k + 1) = s.sigs.take k ++ [x] := by rw [List.take_add_one, hx]; rfl
   refine ⟨(k + 1, v3), ⟨rfl, ⟨rfl, rfl, rfl, rfl, ?_, trivial⟩, ⟨hlt, ?_, ?_, k2.trans k3⟩⟩, by simp only; omega⟩
   ·show Value.int .i64 ((k : Int) + 1) = _
    rw [Int.natCast_add]; rfl
   ·simp only; rw [e, List.all_append, hok]; simp [hok3]
   ·simp only; rw [e, List.flatMap_append]; simpa using hw3
  ·(refine AA ?_ <;> (refine As rfl rfl (fun hc => ?_) (fun hc => ?_) <;> try omega))
   repeat' first | refine nx rfl ?_ | refine nf rfl ?_
   have e : k = s.sigs.length := by omega
   subst e
   rw [List.take_length] at hok hw1
   exact Am v1 ⟨rfl, rfl, trivial⟩ ⟨hok, hw1, k1⟩
 rintro v1 w1 f1 ⟨hoks, hw1, k1⟩
 have hV1 := hV.wrote k1 hw
 have c1 := hV1.c1
 have hG1 := k1.gp hw hG hp
 have hsl1 := sigs_len _ hoks
 generalize htt : t ++ s.sigs.flatMap sgnT = tt at hw1
 have httl : tt.length ≤ 100000000 + 44000000 := by rw [← htt, List.length_append]; omega
 repeat' first | refine nx rfl ?_ | fail
 (refine AA (AP rfl (AJ rfl (AD rfl ?_))) <;> refine AG rfl (by assumption) ?_ <;> refine Ao rfl (AI rfl ?_))
 repeat' first | refine nx rfl ?_ | fail
 refine BE (α := Nat × Value) (fun x => [(0, pt p), (1, .pointer (some ⟨b, o, none⟩)), (24, .slice ra s.reqs.length rc), (25, .int .i64 (s.reqs.length : Int)), (26, .int .i64 (x.1 : Int))])
  (fun x W => x.1 ≤ s.reqs.length ∧ (s.reqs.take x.1).all okRq = true ∧ WrB W p x.2 (tt ++ (List.range x.1).flatMap (rqI s.reqs)) ∧ Wrote p v x.2 w W) (fun x => s.reqs.length - x.1) (0, v1) ⟨rfl, rfl, rfl, rfl, rfl, trivial⟩ ⟨by simp, by simp, by simpa using hw1, k1⟩ ?_
 clear c0 c1
 rintro ⟨k, v2⟩ w2 f2 ⟨hk, hok, hw2, k2⟩
 simp only at hk hok hw2 k2 ⊢
 repeat' first | refine nx rfl ?_ | fail
 by_cases hlt : k < s.reqs.length
 ·obtain ⟨r, hr⟩ : ∃ r, s.reqs[k]? = some r := ⟨_, List.getElem?_eq_getElem hlt⟩
  have hlen2 := rqs_len s.reqs k hk hok
  have hle2 := szR_le s.reqs k
  have hle3 := szR_le s.reqs (k + 1)
  rw [szR_take hr] at hle3
  generalize hut : tt ++ (List.range k).flatMap (rqI s.reqs) = ut at hw2
  have hutl : ut.length ≤ 144000000 + 44 * szR s.reqs := by rw [← hut, List.length_append]; omega
  have hbad : okRq r = false → Cr s = false := fun h => by
   have : s.reqs.all okRq = false := by
    rw [← Bool.not_eq_true, List.all_eq_true]
    intro h2
    have := h2 r (List.mem_of_getElem? hr)
    rw [h] at this; cases this
   simp [Cr, this]
  have hV2 := hV.wrote k2 hw
  obtain ⟨d, hd⟩ : ∃ d, LR[k]? = some d := ⟨_, List.getElem?_eq_getElem (by rw [hV.rr.1]; exact hlt)⟩
  obtain ⟨br, or, era, hbr, hcr⟩ := hV2.rs.row hV2.rr hd hlt
  subst era
  have hprt : ∀ (W : World), SpV W p b o s sa (some ⟨br, or, none⟩) sc rc LS LR → ∀ j r', s.reqs[j]? = some r' → W.cell? ⟨br, or + j * 8 + 0, none⟩ = some (AM r'.part) := by
   intro W hVW j r' hr'
   have hj := (List.getElem?_eq_some_iff.1 hr').1
   obtain ⟨d', hd'⟩ : ∃ d, LR[j]? = some d := ⟨_, List.getElem?_eq_getElem (by rw [hV.rr.1]; exact hj)⟩
   obtain ⟨_, _, e, _, hcr'⟩ := hVW.rs.row hVW.rr hd' hj
   cases e
   obtain ⟨d5, e5, _⟩ := hVW.rr.2 j d' r' hd' hr'
   exact hcr' 0 _ (by rw [e5]; rfl)
  have c1 := hV2.c1
  (refine AA ?_ <;> (refine As rfl rfl (fun hc => ?_) (fun hc => ?_) <;> try omega))
  repeat' first | refine nx rfl ?_ | fail
  refine AA (AI rfl (AB (AI rfl ?_)))
  repeat' first | refine nx rfl ?_ | fail
  (refine AA (AP rfl (AJ rfl (AD rfl ?_))) <;> refine AG rfl (by assumption) ?_ <;> refine AI rfl ?_ <;> refine BP rfl rfl rfl (by omega) ?_ <;> refine AB (AP rfl (AE ?_)))
  repeat' first | refine AE ?_ | refine Cd ?_ | refine Co ?_
  generalize hcc : decide (k = 0 ∨ (s.reqs[k - 1]?).map (·.part) ≠ some r.part) = cc
  refine Bv (α := Unit) (fun _ => [(0, pt p), (1, .pointer (some ⟨b, o, none⟩)), (6, .int .i64 (k : Int)), (7, .pointer (some ⟨br, or + k * 8, none⟩)), (24, .slice (some ⟨br, or, none⟩) s.reqs.length rc), (25, .int .i64 (s.reqs.length : Int)), (26, .int .i64 (k : Int)), (52, .bool cc)]) (fun _ W => Ext w2 W) ?_ ?_
  ·refine BA (.read 0 (.read 1 (.read 2 (.read 3 (.read 4 (.read 5 (.read 6 (.read 7 (.read 8 (.read 9 (.read 10 (.read 11 (.read 12 (.read 13 (.read 14 (.read 15 (.read 16 (.read 17 .done)))))))))))))))))) A6 (by kernel_rfl) (fun wd kd ed => ⟨Ext wd, ?_, ?_⟩)
   ·exact Ext.refl _
   have fsv : ∀ W, Ext wd W → W.cell? ⟨b, o + 1, none⟩ = some (.slice (some ⟨br, or, none⟩) s.reqs.length rc) := fun W e => ((hV2.ext kd).ext e).c1
   have fr0 : ∀ W, Ext wd W → W.cell? ⟨br, or + k * 8 + 0, none⟩ = some (AM r.part) := fun W e => hprt W ((hV2.ext kd).ext e) k r hr
   by_cases hk0 : k = 0
   ·subst hk0
    have ecc : cc = true := by rw [← hcc]; simp
    subst ecc
    ((apply D_R rfl rfl; (intro W hW; refine AI rfl ?_; exact AE ⟨rfl, rfl, rfl⟩)) <;> (refine D_eql rfl rfl rfl rfl (fun hc => ?_) (fun hc => ?_) <;> try omega) <;> (apply D_R rfl rfl; (intro W hW; refine AC rfl ?_; exact AE ⟨rfl, rfl, rfl⟩)) <;> refine Ab rfl rfl rfl rfl (Ab rfl rfl rfl rfl (Ab rfl rfl rfl rfl (Ab rfl rfl rfl rfl (Ab rfl rfl rfl rfl (Ab rfl rfl rfl rfl (Ab rfl rfl rfl rfl (Ab rfl rfl rfl rfl (Ab rfl rfl rfl rfl (Ab rfl rfl rfl rfl (Ab rfl rfl rfl rfl (Ab rfl rfl rfl rfl (Ab rfl rfl rfl rfl (Ab rfl rfl rfl rfl ?_))))))))))))) <;> (apply D_R rfl rfl; (intro W hW; (refine AN rfl ?_; refine AC rfl ?_); exact AE ⟨rfl, rfl, rfl⟩)) <;> refine A0 ?_)
    repeat' first | refine nx rfl ?_ | fail
    exact Am () ⟨rfl, rfl, rfl, rfl, rfl, rfl, rfl, rfl, trivial⟩ kd
   ·obtain ⟨r', hr'⟩ : ∃ r', s.reqs[k - 1]? = some r' := ⟨_, List.getElem?_eq_getElem (by omega)⟩
    have fp0 : ∀ W, Ext wd W → W.cell? ⟨br, or + ((k : Int) - 1).toNat * 8 + 0, none⟩ = some (AM r'.part) := fun W e => by
     rw [show ((k : Int) - 1).toNat = k - 1 by omega]
     exact hprt W ((hV2.ext kd).ext e) (k - 1) r' hr'
    ((apply D_R rfl rfl; (intro W hW; refine AI rfl ?_; exact AE ⟨rfl, rfl, rfl⟩)) <;> (refine D_eql rfl rfl rfl rfl (fun hc => ?_) (fun hc => ?_) <;> try omega) <;> (apply D_R rfl rfl; (intro W hW; refine AC rfl ?_; exact AE ⟨rfl, rfl, rfl⟩)) <;> (apply D_R rfl rfl; (intro W hW; (refine AF rfl ?_; refine AP rfl ?_); exact AE ⟨rfl, rfl, rfl⟩)) <;> (apply D_R rfl rfl; (intro W hW; (refine AF rfl ?_; refine AJ rfl ?_); exact AE ⟨rfl, rfl, rfl⟩)) <;> (apply D_R rfl rfl; (intro W hW; (refine AF rfl ?_; refine AD rfl ?_); exact AE ⟨rfl, rfl, rfl⟩)) <;> (apply D_R rfl rfl; (intro W hW; (refine AF rfl ?_; refine AG rfl (fsv W hW) ?_); exact AE ⟨rfl, rfl, rfl⟩)) <;> (apply D_R rfl rfl; (intro W hW; (refine AF rfl ?_; refine AI rfl ?_); exact AE ⟨rfl, rfl, rfl⟩)) <;> (apply D_R rfl rfl; (intro W hW; (refine AF rfl ?_; refine W_sub rfl rfl (by first | exact Ah (by omega) (by omega) | exact Aq (by omega) (by omega) | exact Ai (by omega) (by omega)) ?_); exact AE ⟨rfl, rfl, rfl⟩)) <;> (apply D_R rfl rfl; (intro W hW; (refine AF rfl ?_; refine A5 rfl rfl (by omega) (by omega) ?_); exact AE ⟨rfl, rfl, rfl⟩)) <;> (apply D_R rfl rfl; (intro W hW; (refine AF rfl ?_; refine AD rfl ?_); exact AE ⟨rfl, rfl, rfl⟩)) <;> (apply D_R rfl rfl; (intro W hW; (refine AF rfl ?_; refine AG rfl (fp0 W hW) ?_); exact AE ⟨rfl, rfl, rfl⟩)) <;> (apply D_R rfl rfl; (intro W hW; (refine AF rfl ?_; refine AP rfl ?_); exact AE ⟨rfl, rfl, rfl⟩)) <;> (apply D_R rfl rfl; (intro W hW; (refine AF rfl ?_; refine AJ rfl ?_); exact AE ⟨rfl, rfl, rfl⟩)) <;> (apply D_R rfl rfl; (intro W hW; (refine AF rfl ?_; refine AD rfl ?_); exact AE ⟨rfl, rfl, rfl⟩)) <;> (apply D_R rfl rfl; (intro W hW; (refine AF rfl ?_; refine AG rfl (fr0 W hW) ?_); exact AE ⟨rfl, rfl, rfl⟩)) <;> (refine D_sneq rfl rfl rfl rfl (fun hc => ?_) (fun hc => ?_)) <;> (apply D_R rfl rfl; (intro W hW; (refine AQ rfl ?_; refine AC rfl ?_); exact AE ⟨rfl, rfl, rfl⟩)) <;> refine A0 ?_)
    ·have ecc : cc = true := by rw [← hcc, hr']; simp; exact .inr (by assumption)
     subst ecc
     repeat' first | refine nx rfl ?_ | fail
     exact Am () ⟨rfl, rfl, rfl, rfl, rfl, rfl, rfl, rfl, trivial⟩ kd
    ·have ecc : cc = false := by rw [← hcc, hr']; simp [hk0]; assumption
     subst ecc
     repeat' first | refine nx rfl ?_ | fail
     exact Am () ⟨rfl, rfl, rfl, rfl, rfl, rfl, rfl, rfl, trivial⟩ kd
  rintro _ w3 f3 k3
  have hw3 := hw2.ext k3
  have k23 := k2.ext k3
  have hV3 := hV2.ext k3
  refine Bv (α := Value) (fun _ => [(0, pt p), (1, .pointer (some ⟨b, o, none⟩)), (6, .int .i64 (k : Int)), (7, .pointer (some ⟨br, or + k * 8, none⟩)), (24, .slice (some ⟨br, or, none⟩) s.reqs.length rc), (25, .int .i64 (s.reqs.length : Int)), (26, .int .i64 (k : Int))])
   (fun v3 W => BW r.part = true ∧ WrB W p v3 (ut ++ if cc then [112, 97, 114, 116, 32] ++ (r.part ++ [32, 123, 10]) else []) ∧ Wrote p v v3 w W) ?_ ?_
  ·cases cc with
   | true =>
    repeat' first | refine nx rfl ?_ | fail
    have hp3 := hprt w3 hV3 k r hr
    (refine AA (AP rfl (AP rfl (AJ rfl (AD rfl ?_)))) <;> refine AG rfl (by assumption) ?_)
    refine AZ (wname_ok w3 r.part (k23.gp hw hG hp).gk) rfl ?_ ?_
    rotate_left
    ·rintro ch w4 ⟨rfl, hb, rfl⟩
     repeat' first | refine nx rfl ?_ | fail
     exact AY ⟨rfl, hbad (by simp [okRq, hb]), v2, k23⟩
    rintro _ w4 ⟨rfl, hnm, rfl⟩
    have hnl := (BB hnm).2.1
    refine AV (out := [AM [112, 97, 114, 116, 32], AM r.part, AM [32, 123, 10]]) rfl (by omega) (by kernel_rfl) (fun w5 n5 => ?_)
    refine AR (B4 (parts := [[112, 97, 114, 116, 32], r.part, [32, 123, 10]]) hw3 n5 (by simp) (by simp; omega)) rfl ?_
    rintro _ w6 ⟨v6, hw6, k6⟩
    repeat' first | refine nx rfl ?_ | fail
    refine Am v6 ⟨rfl, rfl, rfl, rfl, rfl, rfl, rfl, trivial⟩ ⟨hnm, ?_, k23.trans k6⟩
    rw [if_pos rfl]
    simpa using hw6
   | false =>
    repeat' first | refine nx rfl ?_ | refine nf rfl ?_
    refine Am v2 ⟨rfl, rfl, rfl, rfl, rfl, rfl, rfl, trivial⟩ ⟨?_, by simpa using hw3, k23⟩
    simp only [decide_eq_false_iff_not, not_or, ne_eq, Decidable.not_not] at hcc
    obtain ⟨r', hr', e⟩ := Option.map_eq_some_iff.1 hcc.2
    have := List.all_eq_true.1 hok r' (List.mem_of_getElem? (i := k - 1) (by rw [List.getElem?_take_of_lt (by omega)]; exact hr'))
    simp only [okRq, Bool.and_eq_true] at this
    rw [← e]; exact this.1
  rintro v3 w4 f4 ⟨hnm, hw4, k4⟩
  have hnl := (BB hnm).2.1
  generalize hot : (if cc then [112, 97, 114, 116, 32] ++ (r.part ++ [32, 123, 10]) else [] : List UInt8) = ot at hw4
  have hotl : ot.length ≤ 20 := by rw [← hot]; split <;> simp; omega
  repeat' first | refine nx rfl ?_ | fail
  refine AA (AP rfl ?_)
  refine AV (out := [AM [32, 32]]) rfl (by omega) (by kernel_rfl) (fun w5 n5 => ?_)
  refine AR (B4 (parts := [[32, 32]]) hw4 n5 (by simp) (by simp; omega)) rfl ?_
  rintro _ w6 ⟨v6, hw6, k6⟩
  repeat' first | refine nx rfl ?_ | fail
  have k46 := k4.trans k6
  have hV6 := hV.wrote k46 hw
  have hG6 := k46.gp hw hG hp
  have hpa : PA reqR (fun b => b < p) w6 br (or + k * 8) r := by
   obtain ⟨_, _, e, hb6, hcr6⟩ := hV6.rs.row hV6.rr hd hlt
   cases e
   exact ⟨hb6, d, hcr6, hV6.rr.2 k d r hd hr⟩
  refine AA (AP rfl (AP rfl ?_))
  refine AZ (wreq_ok w6 p br (or + k * 8) v6 _ r hw6 hpa hG6 hp (by omega) (by simp; omega)) rfl ?_ ?_
  rotate_left
  ·rintro ch w7 ⟨rfl, hb, v7, k7⟩
   repeat' first | refine nx rfl ?_ | fail
   exact AY ⟨rfl, hbad (by simp [okRq, hb]), v7, k46.trans k7⟩
  rintro _ w7 ⟨hrok, v7, hw7, k7⟩
  have hrtl := reqT_len hrok
  repeat' first | refine nx rfl ?_ | fail
  have k47 := k46.trans k7
  refine AA (AP rfl ?_)
  refine AV (out := [AM [59, 10]]) rfl (by omega) (by kernel_rfl) (fun w8 n8 => ?_)
  refine AR (B4 (parts := [[59, 10]]) hw7 n8 (by simp) (by simp; omega)) rfl ?_
  rintro _ w9 ⟨v9, hw9, k9⟩
  have k49 := k47.trans k9
  have hV9 := hV.wrote k49 hw
  repeat' first | refine AE ?_ | refine Cd ?_ | refine Co ?_
  generalize hce : decide (k + 1 = s.reqs.length ∨ (s.reqs[k + 1]?).map (·.part) ≠ some r.part) = ce
  refine Bv (α := Unit) (fun _ => [(0, pt p), (1, .pointer (some ⟨b, o, none⟩)), (24, .slice (some ⟨br, or, none⟩) s.reqs.length rc), (25, .int .i64 (s.reqs.length : Int)), (26, .int .i64 (k : Int)), (93, .bool ce)]) (fun _ W => Ext w9 W) ?_ ?_
  ·refine BA (.read 0 (.read 1 (.read 2 (.read 3 (.read 4 (.read 5 (.read 6 (.read 7 (.read 8 (.read 9 (.read 10 (.read 11 (.read 12 (.read 13 (.read 14 (.read 15 (.read 16 (.read 17 (.read 18 (.read 19 (.read 20 (.read 21 (.read 22 (.read 23 .done)))))))))))))))))))))))) A6 (by kernel_rfl) (fun wd kd ed => ⟨Ext wd, ?_, ?_⟩)
   ·exact Ext.refl _
   have fsv : ∀ W, Ext wd W → W.cell? ⟨b, o + 1, none⟩ = some (.slice (some ⟨br, or, none⟩) s.reqs.length rc) := fun W e => ((hV9.ext kd).ext e).c1
   have fr0 : ∀ W, Ext wd W → W.cell? ⟨br, or + k * 8 + 0, none⟩ = some (AM r.part) := fun W e => hprt W ((hV9.ext kd).ext e) k r hr
   by_cases hk0 : k + 1 = s.reqs.length
   ·have ecc : ce = true := by rw [← hce]; simp [hk0]
    subst ecc
    ((apply D_R rfl rfl; (intro W hW; refine AI rfl ?_; exact AE ⟨rfl, rfl, rfl⟩)) <;> (apply D_R rfl rfl; (intro W hW; refine BD rfl rfl (by first | exact Ah (by omega) (by omega) | exact Aq (by omega) (by omega) | exact Ai (by omega) (by omega)) ?_; exact AE ⟨rfl, rfl, rfl⟩)) <;> (apply D_R rfl rfl; (intro W hW; refine AP rfl ?_; exact AE ⟨rfl, rfl, rfl⟩)) <;> (apply D_R rfl rfl; (intro W hW; refine AJ rfl ?_; exact AE ⟨rfl, rfl, rfl⟩)) <;> (apply D_R rfl rfl; (intro W hW; refine AD rfl ?_; exact AE ⟨rfl, rfl, rfl⟩)) <;> (apply D_R rfl rfl; (intro W hW; refine AG rfl (fsv W hW) ?_; exact AE ⟨rfl, rfl, rfl⟩)) <;> (apply D_R rfl rfl; (intro W hW; refine Ao rfl ?_; exact AE ⟨rfl, rfl, rfl⟩)) <;> (refine D_eql rfl rfl rfl rfl (fun hc => ?_) (fun hc => ?_) <;> try omega) <;> (apply D_R rfl rfl; (intro W hW; refine AC rfl ?_; exact AE ⟨rfl, rfl, rfl⟩)) <;> refine Ab rfl rfl rfl rfl (Ab rfl rfl rfl rfl (Ab rfl rfl rfl rfl (Ab rfl rfl rfl rfl (Ab rfl rfl rfl rfl (Ab rfl rfl rfl rfl (Ab rfl rfl rfl rfl (Ab rfl rfl rfl rfl (Ab rfl rfl rfl rfl (Ab rfl rfl rfl rfl (Ab rfl rfl rfl rfl (Ab rfl rfl rfl rfl (Ab rfl rfl rfl rfl (Ab rfl rfl rfl rfl ?_))))))))))))) <;> (apply D_R rfl rfl; (intro W hW; (refine AN rfl ?_; refine AC rfl ?_); exact AE ⟨rfl, rfl, rfl⟩)) <;> refine A0 ?_)
    repeat' first | refine nx rfl ?_ | fail
    exact Am () ⟨rfl, rfl, rfl, rfl, rfl, rfl, trivial⟩ kd
   ·obtain ⟨r', hr'⟩ : ∃ r', s.reqs[k + 1]? = some r' := ⟨_, List.getElem?_eq_getElem (by omega)⟩
    have fp0 : ∀ W, Ext wd W → W.cell? ⟨br, or + ((k : Int) + 1).toNat * 8 + 0, none⟩ = some (AM r'.part) := fun W e => by
     rw [show ((k : Int) + 1).toNat = k + 1 by omega]
     exact hprt W ((hV9.ext kd).ext e) (k + 1) r' hr'
    have fp1 : ∀ W, Ext wd W → W.cell? ⟨br, or + (k + 1) * 8 + 0, none⟩ = some (AM r'.part) := fun W e => hprt W ((hV9.ext kd).ext e) (k + 1) r' hr'
    ((apply D_R rfl rfl; (intro W hW; refine AI rfl ?_; exact AE ⟨rfl, rfl, rfl⟩)) <;> (apply D_R rfl rfl; (intro W hW; refine BD rfl rfl (by first | exact Ah (by omega) (by omega) | exact Aq (by omega) (by omega) | exact Ai (by omega) (by omega)) ?_; exact AE ⟨rfl, rfl, rfl⟩)) <;> (apply D_R rfl rfl; (intro W hW; refine AP rfl ?_; exact AE ⟨rfl, rfl, rfl⟩)) <;> (apply D_R rfl rfl; (intro W hW; refine AJ rfl ?_; exact AE ⟨rfl, rfl, rfl⟩)) <;> (apply D_R rfl rfl; (intro W hW; refine AD rfl ?_; exact AE ⟨rfl, rfl, rfl⟩)) <;> (apply D_R rfl rfl; (intro W hW; refine AG rfl (fsv W hW) ?_; exact AE ⟨rfl, rfl, rfl⟩)) <;> (apply D_R rfl rfl; (intro W hW; refine Ao rfl ?_; exact AE ⟨rfl, rfl, rfl⟩)) <;> (refine D_eql rfl rfl rfl rfl (fun hc => ?_) (fun hc => ?_) <;> try omega) <;> (apply D_R rfl rfl; (intro W hW; refine AC rfl ?_; exact AE ⟨rfl, rfl, rfl⟩)) <;> (apply D_R rfl rfl; (intro W hW; (refine AF rfl ?_; refine AP rfl ?_); exact AE ⟨rfl, rfl, rfl⟩)) <;> (apply D_R rfl rfl; (intro W hW; (refine AF rfl ?_; refine AJ rfl ?_); exact AE ⟨rfl, rfl, rfl⟩)) <;> (apply D_R rfl rfl; (intro W hW; (refine AF rfl ?_; refine AD rfl ?_); exact AE ⟨rfl, rfl, rfl⟩)) <;> (apply D_R rfl rfl; (intro W hW; (refine AF rfl ?_; refine AG rfl (fsv W hW) ?_); exact AE ⟨rfl, rfl, rfl⟩)) <;> (apply D_R rfl rfl; (intro W hW; (refine AF rfl ?_; refine AI rfl ?_); exact AE ⟨rfl, rfl, rfl⟩)) <;> (apply D_R rfl rfl; (intro W hW; (refine AF rfl ?_; refine BD rfl rfl (by first | exact Ah (by omega) (by omega) | exact Aq (by omega) (by omega) | exact Ai (by omega) (by omega)) ?_); exact AE ⟨rfl, rfl, rfl⟩)) <;> (apply D_R rfl rfl; (intro W hW; (refine AF rfl ?_; refine A5 rfl rfl (by omega) (by omega) ?_); exact AE ⟨rfl, rfl, rfl⟩)) <;> (apply D_R rfl rfl; (intro W hW; (refine AF rfl ?_; refine AD rfl ?_); exact AE ⟨rfl, rfl, rfl⟩)) <;> (apply D_R rfl rfl; (intro W hW; (refine AF rfl ?_; refine AG rfl (fp0 W hW) ?_); exact AE ⟨rfl, rfl, rfl⟩)) <;> (apply D_R rfl rfl; (intro W hW; (refine AF rfl ?_; refine AP rfl ?_); exact AE ⟨rfl, rfl, rfl⟩)) <;> (apply D_R rfl rfl; (intro W hW; (refine AF rfl ?_; refine AJ rfl ?_); exact AE ⟨rfl, rfl, rfl⟩)) <;> (apply D_R rfl rfl; (intro W hW; (refine AF rfl ?_; refine AD rfl ?_); exact AE ⟨rfl, rfl, rfl⟩)) <;> (apply D_R rfl rfl; (intro W hW; (refine AF rfl ?_; refine AG rfl (fr0 W hW) ?_); exact AE ⟨rfl, rfl, rfl⟩)) <;> (refine D_sneq rfl rfl rfl rfl (fun hc => ?_) (fun hc => ?_)) <;> (apply D_R rfl rfl; (intro W hW; (refine AQ rfl ?_; refine AC rfl ?_); exact AE ⟨rfl, rfl, rfl⟩)) <;> refine A0 ?_)
    ·have ecc : ce = true := by rw [← hce, hr']; simp; exact .inr (by assumption)
     subst ecc
     repeat' first | refine nx rfl ?_ | fail
     exact Am () ⟨rfl, rfl, rfl, rfl, rfl, rfl, trivial⟩ kd
    ·have ecc : ce = false := by rw [← hce, hr']; simp [hk0]; assumption
     subst ecc
     repeat' first | refine nx rfl ?_ | fail
     exact Am () ⟨rfl, rfl, rfl, rfl, rfl, rfl, trivial⟩ kd
  rintro _ w10 f10 k10
  have hw10 := hw9.ext k10
  have k410 := k49.ext k10
  have hrq : okRq r = true := by simp [okRq, hnm, hrok]
  have ext1 : s.reqs.take (k + 1) = s.reqs.take k ++ [r] := by rw [List.take_add_one, hr]; rfl
  have hok' : (s.reqs.take (k + 1)).all okRq = true := by rw [ext1, List.all_append, hok]; simp [hrq]
  have hot2 : (if k = 0 ∨ (s.reqs[k - 1]?).map (·.part) ≠ some r.part then [112, 97, 114, 116, 32] ++ (r.part ++ [32, 123, 10]) else [] : List UInt8) = ot := by
   rw [← hot, ← hcc]; simp only [decide_eq_true_eq]
  have htext : tt ++ (List.range (k + 1)).flatMap (rqI s.reqs) = ut ++ ot ++ [[32, 32]].flatten ++ reqT r ++ [[59, 10]].flatten ++ (if ce then [125, 10] else []) := by
   rw [List.range_succ, List.flatMap_append, ← List.append_assoc, hut]
   have e : rqI s.reqs k = ot ++ ([32, 32] ++ (reqT r ++ ([59, 10] ++ (if ce then [125, 10] else [])))) := by
    unfold rqI
    rw [hr]
    simp only
    rw [hot2, ← hce]
    simp only [decide_eq_true_eq]
   simp [e]
  cases ce with
  | true =>
   repeat' first | refine nx rfl ?_ | fail
   refine AA (AP rfl ?_)
   refine AV (out := [AM [125, 10]]) rfl (by omega) (by kernel_rfl) (fun w11 n11 => ?_)
   refine AR (B4 (parts := [[125, 10]]) hw10 n11 (by simp) (by simp; omega)) rfl ?_
   rintro _ w12 ⟨v12, hw12, k12⟩
   repeat' first | refine nx rfl ?_ | fail
   have hw12' : WrB w12 p v12 (tt ++ (List.range (k + 1)).flatMap (rqI s.reqs)) := by
    rw [htext, if_pos rfl]
    simpa using hw12
   (refine AA ?_ <;> refine BD rfl rfl (by first | exact Ah (by omega) (by omega) | exact Aq (by omega) (by omega) | exact Ai (by omega) (by omega)) ?_ <;> refine AI rfl ?_)
   repeat' first | refine nx rfl ?_ | fail
   refine ⟨(k + 1, v12), ⟨rfl, ⟨rfl, rfl, rfl, rfl, ?_, trivial⟩, ⟨hlt, hok', hw12', (k410.trans k12)⟩⟩, by simp only; omega⟩
   show Value.int .i64 ((k : Int) + 1) = _
   rw [Int.natCast_add]; rfl
  | false =>
   repeat' first | refine nx rfl ?_ | refine nf rfl ?_
   have hw12' : WrB w10 p v9 (tt ++ (List.range (k + 1)).flatMap (rqI s.reqs)) := by
    rw [htext, if_neg (by simp)]
    simpa using hw10
   (refine AA ?_ <;> refine BD rfl rfl (by first | exact Ah (by omega) (by omega) | exact Aq (by omega) (by omega) | exact Ai (by omega) (by omega)) ?_ <;> refine AI rfl ?_)
   repeat' first | refine nx rfl ?_ | fail
   refine ⟨(k + 1, v9), ⟨rfl, ⟨rfl, rfl, rfl, rfl, ?_, trivial⟩, ⟨hlt, hok', hw12', k410⟩⟩, by simp only; omega⟩
   show Value.int .i64 ((k : Int) + 1) = _
   rw [Int.natCast_add]; rfl
 ·(refine AA ?_ <;> (refine As rfl rfl (fun hc => ?_) (fun hc => ?_) <;> try omega))
  repeat' first | refine nx rfl ?_ | refine nf rfl ?_
  have e : k = s.reqs.length := by omega
  subst e
  rw [List.take_length] at hok
  refine Au rfl ⟨by simp [Cr, hoks, hok], v2, ?_, k2⟩
  have e : t ++ spcT s = tt ++ (List.range s.reqs.length).flatMap (rqI s.reqs) := by rw [← htt]; simp [spcT, rqsT]
  rw [e]
  exact hw2
end Go.Proofs.YtfcgdbmoncnibaaGreatDoor
namespace Go.Proofs.YtfcgdbmoncnibaaGreatDoor
open Go.RowKit
set_option linter.unusedVariables false
def blankB (r : Rqm) : Bool := r.part.isEmpty && decide (r.kind = 0) && decide (r.formula.op = 0) && r.formula.name.isEmpty && decide (r.formula.val = 0) && decide (r.formula.bound = 0) && r.formula.args.isEmpty
set_option maxHeartbeats 1600000 in
theorem wblank_ok (w : World) (b o : Nat) (r : Rqm) (hf : PA reqR Aw w b o r) :
  Fn Tryz.prog 85 [.pointer (some ⟨b, o, none⟩)] w (fun u w' => u = .bool (blankB r) ∧ w' = w) := by
 obtain ⟨_, d', hcl, d, rfl, hd, hfa⟩ := id hf
 obtain ⟨av, e, L, hS, hFA, _⟩ := hfa.form
 obtain ⟨a, c, rfl, _⟩ := id hS
 have e := congrArg Array.toList (Value.agg.inj e)
 have e : d = fcC r.formula (.slice a r.formula.args.length c) := e
 subst e
 have c0 : w.cell? ⟨b, o + 0, none⟩ = some (AM r.part) := hcl 0 _ rfl
 have c2 : w.cell? ⟨b, o + 2, none⟩ = some (.int .i64 r.kind) := hcl 2 _ rfl
 have c3 : w.cell? ⟨b, o + 3 + 0, none⟩ = some (.int .i64 r.formula.op) := hcl 3 _ rfl
 have c4 : w.cell? ⟨b, o + 3 + 1, none⟩ = some (AM r.formula.name) := hcl 4 _ rfl
 have c5 : w.cell? ⟨b, o + 3 + 2, none⟩ = some (.int .i64 r.formula.val) := hcl 5 _ rfl
 have c6 : w.cell? ⟨b, o + 3 + 3, none⟩ = some (.int .i64 r.formula.bound) := hcl 6 _ rfl
 have c7 : w.cell? ⟨b, o + 3 + 4, none⟩ = some (.slice a r.formula.args.length c) := hcl 7 _ rfl
 refine Aa Tryz.func85 rfl Tryz.ntmps85 (Nat.le_of_ble_eq_true rfl) (by kernel_rfl) ?_
 repeat' first | refine nx rfl ?_ | fail
 refine AA (AB (AC rfl ?_))
 repeat' first | refine nx rfl ?_ | fail
 refine AA (AP rfl (AJ rfl (AD rfl (AB (AP rfl ?_)))))
 repeat' first | refine nx rfl ?_ | fail
 (refine AA (AP rfl (AJ rfl (AD rfl ?_))) <;> refine AG rfl (by assumption) ?_ <;> refine Bu rfl rfl (fun hc => ?_) (fun hc => ?_) <;> refine AC rfl ?_ <;> (first | refine AK rfl ?_ | (refine AF rfl ?_; refine AP rfl ?_)) <;> (first | refine AK rfl ?_ | (refine AF rfl ?_; refine AJ rfl ?_)) <;> (first | refine AK rfl ?_ | (refine AF rfl ?_; refine AD rfl ?_)) <;> (first | refine AK rfl ?_ | (refine AF rfl ?_; refine AG rfl (by assumption) ?_)) <;> (first | refine AK rfl ?_ | (refine AF rfl ?_; (refine AH rfl rfl (fun hc => ?_) (fun hc => ?_) <;> try omega))) <;> ((first | refine AN rfl ?_ | refine AQ rfl ?_); refine AC rfl ?_) <;> refine AC rfl ?_ <;> (first | refine AK rfl ?_ | (refine AF rfl ?_; refine AP rfl ?_)) <;> (first | refine AK rfl ?_ | (refine AF rfl ?_; refine AJ rfl ?_)) <;> (first | refine AK rfl ?_ | (refine AF rfl ?_; refine AD rfl ?_)) <;> (first | refine AK rfl ?_ | (refine AF rfl ?_; refine AG rfl (by assumption) ?_)) <;> (first | refine AK rfl ?_ | (refine AF rfl ?_; (refine AH rfl rfl (fun hc => ?_) (fun hc => ?_) <;> try omega))) <;> ((first | refine AN rfl ?_ | refine AQ rfl ?_); refine AC rfl ?_) <;> refine AC rfl ?_ <;> (first | refine AK rfl ?_ | (refine AF rfl ?_; refine AP rfl ?_)) <;> (first | refine AK rfl ?_ | (refine AF rfl ?_; refine AJ rfl ?_)) <;> (first | refine AK rfl ?_ | (refine AF rfl ?_; refine AD rfl ?_)) <;> (first | refine AK rfl ?_ | (refine AF rfl ?_; refine AG rfl (by assumption) ?_)) <;> (first | refine AK rfl ?_ | (refine AF rfl ?_; refine Bu rfl rfl (fun hc => ?_) (fun hc => ?_))) <;> ((first | refine AN rfl ?_ | refine AQ rfl ?_); refine AC rfl ?_) <;> refine AC rfl ?_ <;> (first | refine AK rfl ?_ | (refine AF rfl ?_; refine AP rfl ?_)) <;> (first | refine AK rfl ?_ | (refine AF rfl ?_; refine AJ rfl ?_)) <;> (first | refine AK rfl ?_ | (refine AF rfl ?_; refine AD rfl ?_)) <;> (first | refine AK rfl ?_ | (refine AF rfl ?_; refine AG rfl (by assumption) ?_)) <;> (first | refine AK rfl ?_ | (refine AF rfl ?_; (refine AH rfl rfl (fun hc => ?_) (fun hc => ?_) <;> try omega))) <;> ((first | refine AN rfl ?_ | refine AQ rfl ?_); refine AC rfl ?_) <;> refine AC rfl ?_ <;> (first | refine AK rfl ?_ | (refine AF rfl ?_; refine AP rfl ?_)) <;> (first | refine AK rfl ?_ | (refine AF rfl ?_; refine AJ rfl ?_)) <;> (first | refine AK rfl ?_ | (refine AF rfl ?_; refine AD rfl ?_)) <;> (first | refine AK rfl ?_ | (refine AF rfl ?_; refine AG rfl (by assumption) ?_)) <;> (first | refine AK rfl ?_ | (refine AF rfl ?_; (refine AH rfl rfl (fun hc => ?_) (fun hc => ?_) <;> try omega))) <;> ((first | refine AN rfl ?_ | refine AQ rfl ?_); refine AC rfl ?_) <;> refine AC rfl ?_ <;> (first | refine AK rfl ?_ | (refine AF rfl ?_; refine AP rfl ?_)) <;> (first | refine AK rfl ?_ | (refine AF rfl ?_; refine AJ rfl ?_)) <;> (first | refine AK rfl ?_ | (refine AF rfl ?_; refine AD rfl ?_)) <;> (first | refine AK rfl ?_ | (refine AF rfl ?_; refine AG rfl (by assumption) ?_)) <;> (first | refine AK rfl ?_ | (refine AF rfl ?_; refine Ao rfl ?_)) <;> (first | refine AK rfl ?_ | (refine AF rfl ?_; (refine AH rfl rfl (fun hc => ?_) (fun hc => ?_) <;> try omega))) <;> ((first | refine AN rfl ?_ | refine AQ rfl ?_); refine AC rfl ?_) <;> refine AB (AC rfl (AE ?_)))
 all_goals
  repeat' first | refine nx rfl ?_ | fail
  refine AL rfl ⟨congrArg Value.bool ?_, rfl⟩
  clear hcl hfa hS hd hf c0 c2 c3 c4 c5 c6 c7
  simp [blankB, *]
 all_goals
  first
  | exact List.length_eq_zero_iff.1 (by omega)
  | (intro h0; rw [h0] at hc; exact hc rfl)
def edtT (e : Edt) : List UInt8 := if e.kind = 2 then [100, 114, 111, 112, 32] ++ e.req.name else (if e.kind = 1 then [97, 100, 100, 32] else [114, 101, 112, 108, 97, 99, 101, 32]) ++ (e.req.part ++ [32]) ++ reqT e.req
def okE (e : Edt) : Bool := if e.kind = 2 then blankB e.req && BW e.req.name else (decide (e.kind = 1) || decide (e.kind = 3)) && BW e.req.part && okR e.req
set_option maxHeartbeats 1600000 in
theorem wedit_ok (w : World) (p b o : Nat) (v : Value) (t : List UInt8) (e : Edt) (hw : WrB w p v t) (hf : PA edtR (fun b => b < p) w b o e) (hG : GP w) (hp : 10 ≤ p) (hz : szF e.req.formula ≤ 1000000) (hl : t.length ≤ 999000000) :
  FnP Tryz.prog 51 [pt p, .pointer (some ⟨b, o, none⟩)] w (fun _ w' => WAns p v t (edtT e) (okE e) w w') (WPan p v (okE e) w) := by
 obtain ⟨hb, _, hcl, d, rfl, hfit⟩ := id hf
 have hreq : PA reqR (fun b => b < p) w b (o + 1) e.req := ⟨hb, d, fun i u hu => by
  have := hcl (1 + i) u (by rw [Nat.add_comm]; exact hu)
  rw [← Nat.add_assoc] at this
  exact this, hfit⟩
 obtain ⟨_, _, hcl2, d5, rfl, _⟩ := id hreq
 have h0 : w.cell? ⟨b, o + 0, none⟩ = some (.int .i64 e.kind) := hcl 0 _ rfl
 have h10 : w.cell? ⟨b, o + 1 + 0, none⟩ = some (AM e.req.part) := hcl2 0 _ rfl
 have h11 : w.cell? ⟨b, o + 1 + 1, none⟩ = some (AM e.req.name) := hcl2 1 _ rfl
 refine Ap Tryz.func51 rfl Tryz.ntmps51 (Nat.le_of_ble_eq_true rfl) (by kernel_rfl) ?_
 repeat' first | refine nx rfl ?_ | fail
 (refine AA (AP rfl (AJ rfl (AD rfl ?_))) <;> refine AG rfl (by assumption) ?_)
 repeat' first | refine nx rfl ?_ | fail
 by_cases e1 : e.kind = 1
 ·have en2 : ¬ e.kind = 2 := by omega
  (refine AA ?_ <;> (refine AH rfl rfl (fun hc => ?_) (fun hc => ?_) <;> try omega) <;> refine AB (AC rfl ?_))
  repeat' first | refine nx rfl ?_ | fail
  (refine AA (AP rfl (AP rfl (AJ rfl (AD rfl (AD rfl ?_))))) <;> refine AG rfl (by assumption) ?_)
  refine AZ (wname_ok w e.req.part hG.gk) rfl ?_ ?_
  rotate_left
  ·rintro ch w2 ⟨rfl, hb, rfl⟩
   repeat' first | refine nx rfl ?_ | fail
   exact AY ⟨rfl, by simp [okE, e1, hb], v, Wrote.refl _ _ _⟩
  rintro _ w2 ⟨rfl, hnm, rfl⟩
  have hnl := (BB hnm).2.1
  refine AV (out := [AM [97, 100, 100, 32], AM e.req.part, AM [32]]) rfl (by omega) (by kernel_rfl) (fun w3 n3 => ?_)
  refine AR (B4 (parts := [[97, 100, 100, 32], e.req.part, [32]]) hw n3 (by simp) (by simp; omega)) rfl ?_
  rintro _ w4 ⟨v4, hw4, k4⟩
  repeat' first | refine nx rfl ?_ | fail
  refine AA (AP rfl (AP rfl (AJ rfl (AD rfl ?_))))
  refine AZ (wreq_ok w4 p b (o + 1) v4 _ e.req hw4 (hreq.wrote k4 hw) (k4.gp hw hG hp) hp hz (by simp; omega)) rfl ?_ ?_
  rotate_left
  ·rintro ch w5 ⟨rfl, hb, v5, k5⟩
   repeat' first | refine nx rfl ?_ | fail
   exact AY ⟨rfl, by simp [okE, e1, hb], v5, k4.trans k5⟩
  rintro _ w5 ⟨hok, v5, hw5, k5⟩
  repeat' first | refine nx rfl ?_ | fail
  refine Au rfl ⟨by simp [okE, e1, hnm, hok], v5, ?_, k4.trans k5⟩
  have ee : t ++ edtT e = t ++ [[97, 100, 100, 32], e.req.part, [32]].flatten ++ reqT e.req := by simp [edtT, e1]
  rw [ee]
  exact hw5
 by_cases e3 : e.kind = 3
 ·have en2 : ¬ e.kind = 2 := by omega
  (refine AA ?_ <;> (refine AH rfl rfl (fun hc => ?_) (fun hc => ?_) <;> try omega) <;> refine AB (AC rfl ?_))
  repeat' first | refine nx rfl ?_ | refine nf rfl ?_
  (refine AA ?_ <;> (refine AH rfl rfl (fun hc => ?_) (fun hc => ?_) <;> try omega) <;> refine AB (AC rfl ?_))
  repeat' first | refine nx rfl ?_ | fail
  (refine AA (AP rfl (AP rfl (AJ rfl (AD rfl (AD rfl ?_))))) <;> refine AG rfl (by assumption) ?_)
  refine AZ (wname_ok w e.req.part hG.gk) rfl ?_ ?_
  rotate_left
  ·rintro ch w2 ⟨rfl, hb, rfl⟩
   repeat' first | refine nx rfl ?_ | fail
   exact AY ⟨rfl, by simp [okE, e3, hb], v, Wrote.refl _ _ _⟩
  rintro _ w2 ⟨rfl, hnm, rfl⟩
  have hnl := (BB hnm).2.1
  refine AV (out := [AM [114, 101, 112, 108, 97, 99, 101, 32], AM e.req.part, AM [32]]) rfl (by omega) (by kernel_rfl) (fun w3 n3 => ?_)
  refine AR (B4 (parts := [[114, 101, 112, 108, 97, 99, 101, 32], e.req.part, [32]]) hw n3 (by simp) (by simp; omega)) rfl ?_
  rintro _ w4 ⟨v4, hw4, k4⟩
  repeat' first | refine nx rfl ?_ | fail
  refine AA (AP rfl (AP rfl (AJ rfl (AD rfl ?_))))
  refine AZ (wreq_ok w4 p b (o + 1) v4 _ e.req hw4 (hreq.wrote k4 hw) (k4.gp hw hG hp) hp hz (by simp; omega)) rfl ?_ ?_
  rotate_left
  ·rintro ch w5 ⟨rfl, hb, v5, k5⟩
   repeat' first | refine nx rfl ?_ | fail
   exact AY ⟨rfl, by simp [okE, e3, hb], v5, k4.trans k5⟩
  rintro _ w5 ⟨hok, v5, hw5, k5⟩
  repeat' first | refine nx rfl ?_ | fail
  refine Au rfl ⟨by simp [okE, e3, hnm, hok], v5, ?_, k4.trans k5⟩
  have ee : t ++ edtT e = t ++ [[114, 101, 112, 108, 97, 99, 101, 32], e.req.part, [32]].flatten ++ reqT e.req := by simp [edtT, e3]
  rw [ee]
  exact hw5
 by_cases e2 : e.kind = 2
 ·(refine AA ?_ <;> (refine AH rfl rfl (fun hc => ?_) (fun hc => ?_) <;> try omega) <;> refine AB (AC rfl ?_))
  repeat' first | refine nx rfl ?_ | refine nf rfl ?_
  (refine AA ?_ <;> (refine AH rfl rfl (fun hc => ?_) (fun hc => ?_) <;> try omega) <;> refine AB (AC rfl ?_))
  repeat' first | refine nx rfl ?_ | refine nf rfl ?_
  (refine AA ?_ <;> (refine AH rfl rfl (fun hc => ?_) (fun hc => ?_) <;> try omega) <;> refine AB (AC rfl ?_))
  repeat' first | refine nx rfl ?_ | fail
  refine AA (AP rfl (AJ rfl (AD rfl ?_)))
  refine AR (wblank_ok w b (o + 1) e.req (hreq.mono fun _ _ => trivial)) rfl ?_
  rintro _ w1 ⟨rfl, rfl⟩
  refine AZ (Bh w1 (blankB e.req)) rfl ?_ ?_
  rotate_left
  ·rintro ch w2 ⟨rfl, hb2, rfl⟩
   repeat' first | refine nx rfl ?_ | fail
   exact AY ⟨rfl, by simp [okE, e2, hb2], v, Wrote.refl _ _ _⟩
  rintro _ w2 ⟨rfl, hbl, rfl⟩
  repeat' first | refine nx rfl ?_ | fail
  (refine AA (AP rfl (AP rfl (AJ rfl (AD rfl (AD rfl ?_))))) <;> refine AG rfl (by assumption) ?_)
  refine AZ (wname_ok w2 e.req.name hG.gk) rfl ?_ ?_
  rotate_left
  ·rintro ch w3 ⟨rfl, hb3, rfl⟩
   repeat' first | refine nx rfl ?_ | fail
   exact AY ⟨rfl, by simp [okE, e2, hb3], v, Wrote.refl _ _ _⟩
  rintro _ w3 ⟨rfl, hnm, rfl⟩
  have hnl := (BB hnm).2.1
  refine AV (out := [AM [100, 114, 111, 112, 32], AM e.req.name]) rfl (by omega) (by kernel_rfl) (fun w4 n4 => ?_)
  refine AR (B4 (parts := [[100, 114, 111, 112, 32], e.req.name]) hw n4 (by simp) (by simp; omega)) rfl ?_
  rintro _ w5 ⟨v5, hw5, k5⟩
  repeat' first | refine nx rfl ?_ | fail
  refine Au rfl ⟨by simp [okE, e2, hbl, hnm], v5, ?_, k5⟩
  have ee : t ++ edtT e = t ++ [[100, 114, 111, 112, 32], e.req.name].flatten := by simp [edtT, e2]
  rw [ee]
  exact hw5
 ·(refine AA ?_ <;> (refine AH rfl rfl (fun hc => ?_) (fun hc => ?_) <;> try omega) <;> refine AB (AC rfl ?_))
  repeat' first | refine nx rfl ?_ | refine nf rfl ?_
  (refine AA ?_ <;> (refine AH rfl rfl (fun hc => ?_) (fun hc => ?_) <;> try omega) <;> refine AB (AC rfl ?_))
  repeat' first | refine nx rfl ?_ | refine nf rfl ?_
  (refine AA ?_ <;> (refine AH rfl rfl (fun hc => ?_) (fun hc => ?_) <;> try omega) <;> refine AB (AC rfl ?_))
  repeat' first | refine nx rfl ?_ | refine nf rfl ?_
  (refine AA ?_)
  refine AZ (Bh w false) rfl ?_ ?_
  ·rintro v w6 ⟨_, hb, _⟩; cases hb
  rintro ch w6 ⟨rfl, _, rfl⟩
  repeat' first | refine nx rfl ?_ | fail
  exact AY ⟨rfl, by simp [okE, e1, e2, e3], v, Wrote.refl _ _ _⟩
end Go.Proofs.YtfcgdbmoncnibaaGreatDoor
namespace Go.Proofs.YtfcgdbmoncnibaaGreatDoor
open Go.RowKit
set_option linter.unusedVariables false
section
attribute [local semireducible] WC AX Bk BG Bc Cb Cv Bd
variable {P : Program} {all : Array Oper} {Z : Fr → DS → List PanicEntry → World → Prop} {K : Fr → DS → World → Prop} {rest : List Oper} {f : Fr} {ds : DS} {w : World} {d : Nat} {ty : TypeId} {pos : String} {af : Array Edge}
theorem W_someneq {xt yt tx : TypeId} {vx : Value} {x : Operand} [hT : IfT P xt] (hx : ev f x = .iface tx vx) (h : AX P all Z K rest (upd f d (.bool true)) ds w) :
  AX P all Z K (⟨some d, .binOp .neq xt x (.const .nilIface) yt, ty, pos, af, none⟩ :: rest) f ds w := by
 obtain ⟨ms, h1⟩ := hT.out
 refine Ay rfl ?_ h
 have hq : (Op.equalIn Op.maxDepth xt (.iface tx vx) .nilIface).run P w = .ok false w := by
  rw [show Op.maxDepth = 9999 + 1 from rfl]
  generalize 9999 = n
  unfold Op.equalIn
  simp [run_underlying h1]
 have hy : ev f (.const .nilIface) = .nilIface := rfl
 simp [execOp, hx, hy, eqGuard, binOp, Op.equal, hq]
end
instance : IfT Tryz.prog 20 := ⟨_, Tryz.underlying20⟩
theorem trecRet (w : World) (c : Nat) : CallsDIn Fence.wide 0 Tryz.prog 72 ([] ++ [pt c] : List Value).toArray .returning w (fun e u' w' => match e with | .returned _ => u' = .returning ∧ w' = w | _ => False) := by
 refine Cg (u1 := .returning) (v0 := .nilIface) (G := fun _ w' => w' = w) (args := [pt c]) Tryz.func72 rfl Tryz.ntmps72 (by simp) (by decide) (by kernel_rfl) (by kernel_rfl) (.inl ⟨rfl, rfl, rfl⟩) ?_
 refine W_nilneq rfl ?_
 repeat' first | refine nx rfl ?_ | refine nf rfl ?_
 exact Au rfl rfl
theorem trecPan (w : World) (c : Nat) (x : Value) (d : Blk w c 9 [x]) : CallsDIn Fence.wide 0 Tryz.prog 72 ([] ++ [pt c] : List Value).toArray (.panicking [{ v := .iface 186 (.agg #[]), recovered := false }]) w
   (fun en u' w' => match en with | .returned _ => u' = .panicking [{ v := .iface 186 (.agg #[]), recovered := true }] ∧ (Keep [c] w w' ∧ Blk w' c 9 [AM []]) | _ => False) := by
 refine Cg (u1 := .panicking [{ v := .iface 186 (.agg #[]), recovered := true }]) (v0 := .iface 186 (.agg #[])) (G := fun _ w' => Keep [c] w w' ∧ Blk w' c 9 [AM []]) (args := [pt c]) Tryz.func72 rfl Tryz.ntmps72 (by simp) (by decide) (by kernel_rfl) (by kernel_rfl) (.inr ⟨_, rfl, rfl, rfl⟩) ?_
 refine W_someneq rfl ?_
 repeat' first | refine nx rfl ?_ | fail
 (refine AA ?_)
 refine Al rfl rfl rfl d (by simp) (fun w2 p2 => ?_)
 repeat' first | refine nx rfl ?_ | fail
 exact Au rfl ⟨p2.keep, p2.blk⟩
theorem text_ok (w : World) (g c : Nat) [hg : AS Tryz.prog g] (s : List UInt8) (ok : Bool) (hs : ok = true → s.length ≤ 1000000000) (hG : 10 ≤ w.heap.size)
  (hc : ∀ w1 p, Ext w w1 → w.heap.size < p → WrB w1 p (.slice none 0 0) [] → FnP Tryz.prog g [pt p, pt c] w1 (fun _ w' => WAns p (.slice none 0 0) [] s ok w1 w') (WPan p (.slice none 0 0) ok w1)) :
  Fn Tryz.prog 42 [.func (.func g) #[] #[pt c]] w (fun v w' => v = AM (if ok then s else []) ∧ Ext w w') := by
 refine fn_of_wcD Tryz.func42 rfl Tryz.ntmps42 (Nat.le_of_ble_eq_true rfl) (by kernel_rfl) ?_
 repeat' first | refine nx rfl ?_ | fail
 (refine AA ?_)
 refine Av (fun w1 n1 => ?_)
 have z1 := n1.size
 have b1 : Blk w1 w.heap.size 9 [AM []] := n1.blk
 repeat' first | refine nx rfl ?_ | fail
 refine AA (A8 rfl rfl ?_)
 refine W_defer (v1 := []) (v2 := [pt w.heap.size]) (vs := []) rfl rfl ?_
 repeat' first | refine nx rfl ?_ | fail
 (refine AA ?_ <;> refine Ac (by rfl) (by rfl) ?_)
 refine BL (L := [.pointer none, .slice none 0 0]) rfl (fun w2 n2 => ?_)
 have z2 := n2.size
 have b2 : Blk w2 w1.heap.size 120 [.pointer none, .slice none 0 0] := n2.blk
 ((refine AB ?_; refine AP rfl ?_))
 repeat' first | refine nx rfl ?_ | fail
 have k2 : Ext w w2 := n1.keep.trans n2.keep
 have hw2 : WrB w2 w1.heap.size (.slice none 0 0) [] := ⟨⟨none, .inl rfl, b2⟩, ⟨by simp [CS], .inl ⟨rfl, rfl⟩⟩, .inl rfl⟩
 have hold : ∀ {X : List Nat} {a b : World}, Keep X a b → True := fun _ => trivial
 clear hold
 have b12 := b1.keep n2.keep (by simp)
 (refine AA ?_ <;> refine CT rfl ?_ <;> refine AP rfl ?_)
 refine B0 (v1 := []) (v2 := [pt c]) (vs := [pt w1.heap.size]) rfl (hc w2 w1.heap.size k2 (by omega) hw2) rfl ?_ ?_
 rotate_left
 ·rintro ch w3 ⟨rfl, hb, v3, k3⟩
  repeat' first | refine nx rfl ?_ | fail
  have b3 := b12.keep k3.keep (by simp [Value.ownBlock]; omega)
  refine finD_pan_def (a := []) (c := [pt w.heap.size]) (trecPan w3 _ _ b3) fun w4 h4 => ?_
  obtain ⟨k4, b4⟩ := h4
  refine BM rfl (b4.cell rfl) ?_
  refine ⟨by rw [hb]; rfl, (k2.keep k3.keep ?_).keep k4 (by simp)⟩
  intro x hx
  simp [Value.ownBlock] at hx; omega
 rintro _ w3 ⟨hb, v3, hw3, k3⟩
 repeat' first | refine nx rfl ?_ | fail
 have b3 := b12.keep k3.keep (by simp [Value.ownBlock]; omega)
 refine AA (AP rfl (AJ rfl (AD rfl ?_)))
 refine AR (bstring_ok w3 w1.heap.size v3 _ hw3 (by simp; have := hs hb; omega)) rfl ?_
 rintro _ w4 ⟨rfl, k4⟩
 have hv3 : ∀ y, v3.ownBlock = some y → w1.heap.size < y := fun y hy => (hw3.ge hy).1
 have b4 := b3.keep k4 (fun hx => by have := hv3 _ (Option.mem_toList.1 hx); omega)
 refine Al rfl rfl rfl b4 (by simp) (fun w5 p5 => ?_)
 repeat' first | refine nx rfl ?_ | fail
 refine finD_ret_def (a := []) (c := [pt w.heap.size]) (trecRet w5 _) fun w6 k6 => ?_
 subst k6
 refine BM rfl (p5.blk.cell rfl) ?_
 refine ⟨by rw [hb]; rfl, ((k2.keep k3.keep ?_).keep k4 ?_).keep p5.keep (by simp)⟩
 ·intro x hx
  simp [Value.ownBlock] at hx; omega
 ·intro x hx
  have := hv3 x (Option.mem_toList.1 hx); omega
theorem wf_ans {w : World} {p b o : Nat} {v : Value} {t : List UInt8} {f : Fml} (hw : WrB w p v t) (hf : PF (fun b => b < p) w b o f) (hG : GP w) (hp : 10 ≤ p) (hz : szF f ≤ 1000000) (hl : t.length ≤ 1000000000) :
  FnP Tryz.prog 44 [pt p, .pointer (some ⟨b, o, none⟩)] w (fun _ w' => WAns p v t (prF 0 f) (okF f) w w') (WPan p v (okF f) w) := wformula_ok w p b o v t f hw hf hG hp hz hl
theorem print_F (w : World) (x : Fml) (c : List Value) (hx : (fmlR).fits Aw w c x) (hG : GP w) (hz : szF x ≤ 1000000) (hN : 10 ≤ w.heap.size) (hl : (okF x) = true → (prF 0 x).length ≤ 1000000000) :
  Fn Tryz.prog 14 [.agg c.toArray] w (fun v w' => v = AM (if okF x then prF 0 x else []) ∧ Ext w w') := by
 refine Aa Tryz.func14 rfl Tryz.ntmps14 (Nat.le_of_ble_eq_true rfl) (by kernel_rfl) ?_
 repeat' first | refine nx rfl ?_ | fail
 (refine AA ?_; refine BL (L := c) rfl (fun w1 n1 => ?_))
 ((refine AB ?_; refine AT rfl ?_))
 repeat' first | refine nx rfl ?_ | fail
 have z1 := n1.size
 have k1 := n1.keep
 have hx1 := (fmlR).ext ((fmlR).lt hx) k1
 have b1 := n1.blk
 refine AA (A8 rfl rfl ?_)
 refine AR (text_ok w1 43 w.heap.size (prF 0 x) (okF x) hl (by omega) ?_) rfl ?_
 ·intro w2 p k2 hp hw2
  have hG2 := (hG.ext k1).ext k2
  have hgp : 10 ≤ p := by omega
  refine Ap Tryz.func43 rfl Tryz.ntmps43 (Nat.le_of_ble_eq_true rfl) (by kernel_rfl) ?_
  repeat' first | refine nx rfl ?_ | fail
  refine AA (AP rfl ?_)
  refine AZ (wf_ans hw2 ⟨by omega, c, hx1.1, (n1.blk.keep k2 (by simp)).cells, (hx1.2.ext k2).mono fun b hb => Nat.lt_trans hb.2 (by omega)⟩ hG2 hgp hz (by simp)) rfl ?_ ?_
  rotate_left
  ·rintro ch w3 h3
   repeat' first | refine nx rfl ?_ | fail
   exact AY h3
  rintro _ w3 h3
  repeat' first | refine nx rfl ?_ | fail
  exact Au rfl h3
 rintro _ w2 ⟨rfl, k2⟩
 ((refine AB ?_; refine AT rfl ?_))
 repeat' first | refine nx rfl ?_ | fail
 exact AL rfl ⟨rfl, k1.trans k2⟩
theorem print_S (w : World) (x : Spc) (c : List Value) (hx : (spcR).fits Aw w c x) (hG : GP w) (hz : szS x ≤ 1000000) (hN : 10 ≤ w.heap.size) (hl : (Cr x) = true → (spcT x).length ≤ 1000000000) :
  Fn Tryz.prog 16 [.agg c.toArray] w (fun v w' => v = AM (if Cr x then spcT x else []) ∧ Ext w w') := by
 refine Aa Tryz.func16 rfl Tryz.ntmps16 (Nat.le_of_ble_eq_true rfl) (by kernel_rfl) ?_
 repeat' first | refine nx rfl ?_ | fail
 (refine AA ?_; refine BL (L := c) rfl (fun w1 n1 => ?_))
 ((refine AB ?_; refine AT rfl ?_))
 repeat' first | refine nx rfl ?_ | fail
 have z1 := n1.size
 have k1 := n1.keep
 have hx1 := (spcR).ext ((spcR).lt hx) k1
 have b1 := n1.blk
 refine AA (A8 rfl rfl ?_)
 refine AR (text_ok w1 46 w.heap.size (spcT x) (Cr x) hl (by omega) ?_) rfl ?_
 ·intro w2 p k2 hp hw2
  have hG2 := (hG.ext k1).ext k2
  have hgp : 10 ≤ p := by omega
  refine Ap Tryz.func46 rfl Tryz.ntmps46 (Nat.le_of_ble_eq_true rfl) (by kernel_rfl) ?_
  repeat' first | refine nx rfl ?_ | fail
  refine AA (AP rfl ?_)
  refine AZ (wspec_ok w2 p _ 0 _ [] x hw2 ⟨by omega, c, (n1.blk.keep k2 (by simp)).cells, spcR.mono (spcR.ext hx1 k2) fun b hb => Nat.lt_trans hb.2 (by omega)⟩ hG2 hgp hz (by simp)) rfl ?_ ?_
  rotate_left
  ·rintro ch w3 h3
   repeat' first | refine nx rfl ?_ | fail
   exact AY h3
  rintro _ w3 h3
  repeat' first | refine nx rfl ?_ | fail
  exact Au rfl h3
 rintro _ w2 ⟨rfl, k2⟩
 ((refine AB ?_; refine AT rfl ?_))
 repeat' first | refine nx rfl ?_ | fail
 exact AL rfl ⟨rfl, k1.trans k2⟩
theorem print_D (w : World) (x : Edt) (c : List Value) (hx : (edtR).fits Aw w c x) (hG : GP w) (hz : szF x.req.formula ≤ 1000000) (hN : 10 ≤ w.heap.size) (hl : (okE x) = true → (edtT x).length ≤ 1000000000) :
  Fn Tryz.prog 18 [.agg c.toArray] w (fun v w' => v = AM (if okE x then edtT x else []) ∧ Ext w w') := by
 refine Aa Tryz.func18 rfl Tryz.ntmps18 (Nat.le_of_ble_eq_true rfl) (by kernel_rfl) ?_
 repeat' first | refine nx rfl ?_ | fail
 (refine AA ?_; refine BL (L := c) rfl (fun w1 n1 => ?_))
 ((refine AB ?_; refine AT rfl ?_))
 repeat' first | refine nx rfl ?_ | fail
 have z1 := n1.size
 have k1 := n1.keep
 have hx1 := (edtR).ext ((edtR).lt hx) k1
 have b1 := n1.blk
 refine AA (A8 rfl rfl ?_)
 refine AR (text_ok w1 50 w.heap.size (edtT x) (okE x) hl (by omega) ?_) rfl ?_
 ·intro w2 p k2 hp hw2
  have hG2 := (hG.ext k1).ext k2
  have hgp : 10 ≤ p := by omega
  refine Ap Tryz.func50 rfl Tryz.ntmps50 (Nat.le_of_ble_eq_true rfl) (by kernel_rfl) ?_
  repeat' first | refine nx rfl ?_ | fail
  refine AA (AP rfl ?_)
  refine AZ (wedit_ok w2 p _ 0 _ [] x hw2 ⟨by omega, c, (n1.blk.keep k2 (by simp)).cells, edtR.mono (edtR.ext hx1 k2) fun b hb => Nat.lt_trans hb.2 (by omega)⟩ hG2 hgp hz (by simp)) rfl ?_ ?_
  rotate_left
  ·rintro ch w3 h3
   repeat' first | refine nx rfl ?_ | fail
   exact AY h3
  rintro _ w3 h3
  repeat' first | refine nx rfl ?_ | fail
  exact Au rfl h3
 rintro _ w2 ⟨rfl, k2⟩
 ((refine AB ?_; refine AT rfl ?_))
 repeat' first | refine nx rfl ?_ | fail
 exact AL rfl ⟨rfl, k1.trans k2⟩
end Go.Proofs.YtfcgdbmoncnibaaGreatDoor
namespace Go.Proofs.YtfcgdbmoncnibaaGreatDoor
open Go.RowKit
set_option linter.unusedVariables false
theorem GP.size {w : World} (h : GP w) : 10 ≤ w.heap.size := h.gk.gv.size
def hdT : List UInt8 := [105, 110, 112, 117, 116, 32, 114, 59, 10, 111, 117, 116, 112, 117, 116, 32, 103, 58, 32, 51, 59, 10, 112, 97, 114, 116, 32, 112, 32, 123, 10, 32, 32, 103, 117, 97, 114, 97, 110, 116, 101, 101, 32, 111, 110, 101, 58, 32, 71, 32, 40, 114, 32, 45, 62, 32, 70, 91, 51, 93, 32, 103, 41, 59, 10, 32, 32, 97, 115, 115, 117, 109, 101, 32, 116, 119, 111, 58, 32, 116, 114, 117, 101, 59, 10, 125, 10, 112, 97, 114, 116, 32, 113, 32, 123, 10, 32, 32, 103, 117, 97, 114, 97, 110, 116, 101, 101, 32, 111, 110, 101, 58, 32, 103, 61, 50, 59, 10, 125, 10]
theorem hd_S : PRes .spec hdT (.ok exS) := PRes.of (n := 200) (by kernel_rfl)
theorem hd_pS : (if Cr exS then spcT exS else []) = hdT := by kernel_rfl
theorem made15 : (madeCells (Value.agg #[.int .i64 0, AM [], .int .i64 0, .int .i64 0, .slice none 0 0]).cells (3 * 5)).toList = CJ ++ (CJ ++ CJ) := by kernel_rfl
def hdA : Fml := isF [97] 1
def hdB : Fml := isF [98] 1
def hd1 : Fml := ⟨9, [], 0, 0, [⟨9, [], 0, 0, [hdA, isF [98] 0]⟩, ⟨4, [], 0, 0, [isF [99] 2]⟩]⟩
def hd2 : Fml := ⟨5, [], 0, 0, [hdA, ⟨5, [], 0, 0, [hdB, isF [99] 1]⟩, ⟨6, [], 0, 0, [hdA, hdB]⟩]⟩
def hd3 : Fml := ⟨16, [], 1, 0, [⟨15, [], 1, 0, [hdA]⟩, ⟨17, [], 0, 0, [hdA, hdB]⟩]⟩
def hd4 : Fml := ⟨7, [], 0, 0, [⟨7, [], 0, 0, [hdA, hdB]⟩, ⟨7, [], 0, 0, [hdA, hdB]⟩]⟩
theorem hd_p1 : (if okF hd1 then prF 0 hd1 else []) = [40, 97, 32, 85, 32, 98, 61, 48, 41, 32, 85, 32, 33, 99, 61, 50] := by kernel_rfl
theorem hd_p2 : (if okF hd2 then prF 0 hd2 else []) = [97, 32, 38, 32, 40, 98, 32, 38, 32, 99, 41, 32, 38, 32, 40, 97, 32, 124, 32, 98, 41] := by kernel_rfl
theorem hd_p3 : (if okF hd3 then prF 0 hd3 else []) = [90, 32, 97, 32, 83, 91, 49, 93, 32, 97, 32, 84, 91, 48, 93, 32, 98] := by kernel_rfl
theorem hd_p4 : (if okF hd4 then prF 0 hd4 else []) = [40, 97, 32, 45, 62, 32, 98, 41, 32, 45, 62, 32, 97, 32, 45, 62, 32, 98] := by kernel_rfl
theorem hd_p5 : (if okF (isF [71] 1) then prF 0 (isF [71] 1) else []) = [] := by kernel_rfl
theorem hd_p6 : (if okE ⟨2, ⟨[], [103], 0, zeroF⟩⟩ then edtT ⟨2, ⟨[], [103], 0, zeroF⟩⟩ else []) = [100, 114, 111, 112, 32, 103] := by kernel_rfl
theorem hd_p7 : (if okE ⟨1, ⟨[113], [111, 110, 101], 2, isF [103] 2⟩⟩ then edtT ⟨1, ⟨[113], [111, 110, 101], 2, isF [103] 2⟩⟩ else []) = [97, 100, 100, 32, 113, 32, 103, 117, 97, 114, 97, 110, 116, 101, 101, 32, 111, 110, 101, 58, 32, 103, 61, 50] := by kernel_rfl
theorem hd_p8 : (if okE ⟨0, ⟨[], [], 0, zeroF⟩⟩ then edtT ⟨0, ⟨[], [], 0, zeroF⟩⟩ else []) = [] := by kernel_rfl
theorem hd_lex : lexM [71, 32, 97] = .ok [⟨1, [71], 0⟩, ⟨1, [97], 2⟩] := by kernel_rfl
set_option maxHeartbeats 3200000 in
set_option maxRecDepth 20000 in
theorem head_ok (w : World) (hG : GP w) (hF : GF w) : Fn Tryz.prog 10 [] w fun v w' => v = .bool true ∧ Ext w w' := by
 refine Aa Tryz.func10 rfl Tryz.ntmps10 (Nat.le_of_ble_eq_true rfl) (by kernel_rfl) ?_
 repeat' first | refine nx rfl ?_ | fail
 refine AA (AB (AC rfl ?_))
 repeat' first | refine nx rfl ?_ | fail
 (refine AA ?_)
 refine AR (example_ok w) rfl ?_
 rintro _ w1 ⟨cS, rfl, fS, k1⟩
 refine A7 (cs := cS) rfl (spcR.len fS) (by rfl) (spcR.one fS) (fun w2 n2 => ?_)
 have bS := n2.blk
 have k2 : Ext w w2 := k1.trans n2.keep
 replace fS := spcR.ext fS n2.keep
 repeat' first | refine nx rfl ?_ | fail
 refine AA (AB (AT rfl ?_))
 repeat' first | refine nx rfl ?_ | fail
 refine AA (AT rfl ?_)
 refine AR (parseU_S w2 hdT (hG.ext k2).gk) rfl ?_
 rintro _ w3 ⟨o, cT, hp, rfl, k3, fT, _⟩
 obtain rfl := hp.det hd_S
 rw [show Out.errno (Except.ok exS : Out Spc) = 0 from rfl, show Out.loc (Except.ok exS : Out Spc) = -1 from rfl]
 replace fT := spcR.mono (ok' := Aw) fT fun _ _ => trivial
 refine Bl rfl (Aj rfl rfl (Aj rfl rfl (Aj rfl rfl ?_)))
 refine A7 (cs := cT) rfl (spcR.len fT) (by rfl) (spcR.one fT) (fun w4 n4 => ?_)
 have bT := n4.blk
 have k24 := k3.trans n4.keep
 have k4 := k2.trans k24
 replace bS := bS.keep k24 (by simp)
 replace fS := spcR.ext fS k24
 replace fT := spcR.ext fT n4.keep
 refine AB (AI rfl (AB (AI rfl ?_)))
 repeat' first | refine nx rfl ?_ | fail
 replace fT : spcR.fits Aw w4 cT exS := fT
 clear hp
 (refine AA ?_)
 refine AR (ris_ok w4 [97] 1) rfl ?_
 rintro va w5 ⟨k5, fa⟩
 obtain ⟨a0, a1, a2, a3, a4, rfl, oa⟩ := FV.five fa
 refine A7 (cs := [a0, a1, a2, a3, a4]) rfl rfl (by rfl) oa (fun w6 n6 => ?_)
 have ba := n6.blk
 have k46 := k5.trans n6.keep
 replace fa : FV w6 _ hdA := fa.ext n6.keep
 repeat' first | refine nx rfl ?_ | fail
 (refine AA ?_)
 refine AR (ris_ok w6 [98] 1) rfl ?_
 rintro vb w7 ⟨k7, fb⟩
 obtain ⟨b0, b1, b2, b3, b4, rfl, ob⟩ := FV.five fb
 refine A7 (cs := [b0, b1, b2, b3, b4]) rfl rfl (by rfl) ob (fun w8 n8 => ?_)
 have bb := n8.blk
 have k68 := k7.trans n8.keep
 have k48 := k46.trans k68
 replace fb : FV w8 _ hdB := fb.ext n8.keep
 replace fa := fa.ext k68
 replace ba := ba.keep k68 (by simp)
 replace bS := bS.keep k48 (by simp)
 replace bT := bT.keep k48 (by simp)
 replace fS := spcR.ext fS k48
 replace fT := spcR.ext fT k48
 have k8 := k4.trans k48
 repeat' first | refine nx rfl ?_ | fail
 (refine AA ?_; refine AW rfl bS (spcR.len fS) ?_)
 refine AR (print_S w8 exS cS fS (hG.ext k8) (of_decide_eq_true (by kernel_rfl)) (hG.ext k8).size (fun _ => of_decide_eq_true (by kernel_rfl))) rfl ?_
 rintro _ w9 ⟨rfl, k9⟩
 rw [hd_pS]
 (refine AT rfl ?_)
 refine Bu rfl rfl (fun _ => ?_) (fun h => absurd rfl h)
 (refine AC rfl (AF rfl (AI rfl ?_)) <;> (refine AF rfl ?_; (refine AH rfl rfl (fun hc => ?_) (fun hc => ?_) <;> try omega)) <;> refine AN rfl (AC rfl (AC rfl (AF rfl (AI rfl ?_)))) <;> (refine AF rfl ?_; (refine AH rfl rfl (fun hc => ?_) (fun hc => ?_) <;> try omega)) <;> refine AN rfl (AC rfl (AC rfl ?_)))
 (refine AF rfl ?_; refine AW rfl (bT.keep k9 (by simp)) (spcR.len fT) ?_)
 (refine AF rfl ?_; refine AW rfl (bS.keep k9 (by simp)) (spcR.len fS) ?_)
 (refine AF rfl ?_; refine AR (sameSpec_ok w9 _ _ _ _ (spcR.ext fT k9) (spcR.ext fS k9)) rfl ?_)
 rintro _ wA ⟨b, rfl, hb, kA⟩
 obtain rfl : b = true := hb.2 rfl
 refine AN rfl (AC rfl (AB (AC rfl ?_)))
 repeat' first | refine nx rfl ?_ | fail
 have kA8 := k9.trans kA
 have kwA := k8.trans kA8
 replace fa := fa.ext kA8
 replace fb := fb.ext kA8
 replace ba := ba.keep kA8 (by simp)
 replace bb := bb.keep kA8 (by simp)
 replace bS := bS.keep kA8 (by simp)
 replace fS := spcR.ext fS kA8
 clear bT fT hb k9 kA n2 n4 n6 n8 k1 k2 k3 k24 k4 k5 k46 k7 k68 k48 k8
 refine BA (.read 0 (.alt 1 (.alt 2 (.alt 3 (.alt 4 (.alt 5 (.alt 6 (.read 7 (.read 8 (.read 9 (.read 10 (.read 13 (.read 14 (.alt 11 (.alt 12 (.alt 15 (.alt 16 (.alt 17 (.alt 18 (.read 19 (.read 20 (.read 21 .done))) .stop) .stop) .stop) .stop) .stop) .stop))))))) .stop) .stop) .stop) .stop) .stop) .stop)) A6 (by kernel_rfl) (fun wd kd ed => ⟨Ext wd, ?_, ?_⟩)
 ·exact Ext.refl _
 have ca : ∀ W, Ext wd W → Cells W w5.heap.size 0 [a0, a1, a2, a3, a4] := fun W e => ((ba.keep kd (by simp)).keep e (by simp)).cells
 have cb : ∀ W, Ext wd W → Cells W w7.heap.size 0 [b0, b1, b2, b3, b4] := fun W e => ((bb.keep kd (by simp)).keep e (by simp)).cells
 have fad := fa.ext kd
 have fbd := fb.ext kd
 have kwd := kwA.trans kd
 ((apply D_R rfl rfl; (intro W hW; refine AU rfl (by rfl) (ca W hW) ?_; exact AE ⟨rfl, rfl, rfl⟩)))
 refine D_E rfl ?_
 refine AR (ris_ok wd [98] 0) rfl ?_
 rintro vB x1 ⟨e1, fB⟩
 refine AE ⟨Ext wd, fun _ e => e, e1, ?_⟩
 refine D_E rfl ?_
 refine AR (Cl x1 9 _ _ hdA _ (fad.ext e1) fB) rfl ?_
 rintro vU x2 ⟨e2, fU⟩
 have h2 := e1.trans e2
 refine AE ⟨Ext wd, fun _ e => e, h2, ?_⟩
 refine D_E rfl ?_
 refine AR (ris_ok x2 [99] 2) rfl ?_
 rintro vC x3 ⟨e3, fC⟩
 have h3 := h2.trans e3
 refine AE ⟨Ext wd, fun _ e => e, h3, ?_⟩
 refine D_E rfl ?_
 refine AR (rone_ok x3 4 _ _ fC) rfl ?_
 rintro vN x4 ⟨e4, fN⟩
 have h4 := h3.trans e4
 refine AE ⟨Ext wd, fun _ e => e, h4, ?_⟩
 refine D_E rfl ?_
 refine AR (Cl x4 9 _ _ _ _ ((fU.ext e3).ext e4) fN) rfl ?_
 rintro vV x5 ⟨e5, fV⟩
 obtain ⟨p0, p1, p2, p3, p4, rfl, op⟩ := FV.five fV
 have h5 := h4.trans e5
 refine AE ⟨Ext wd, fun _ e => e, h5, ?_⟩
 refine D_E rfl ?_
 refine AR (print_F x5 hd1 _ ⟨rfl, fV⟩ (hG.ext (kwd.trans h5)) (of_decide_eq_true (by kernel_rfl)) (hG.ext (kwd.trans h5)).size (fun _ => of_decide_eq_true (by kernel_rfl))) rfl ?_
 rintro _ x6 ⟨rfl, e6⟩
 rw [hd_p1]
 have h6 := h5.trans e6
 refine AE ⟨Ext wd, fun _ e => e, h6, ?_⟩
 ((refine D_seql rfl rfl rfl rfl (fun hc => ?_) (fun hc => ?_)) <;> (apply D_R rfl rfl; (intro W hW; refine AC rfl ?_; exact AE ⟨rfl, rfl, rfl⟩)) <;> (first | refine Ab rfl rfl rfl rfl ?_ | (apply D_R rfl rfl; (intro W hW; (refine AF rfl ?_; refine AU rfl (by rfl) (ca W hW) ?_); exact AE ⟨rfl, rfl, rfl⟩))) <;> (first | refine Ab rfl rfl rfl rfl ?_ | (apply D_R rfl rfl; (intro W hW; (refine AF rfl ?_; refine AU rfl (by rfl) (cb W hW) ?_); exact AE ⟨rfl, rfl, rfl⟩))) <;> (first | refine Ab rfl rfl rfl rfl ?_ | (apply D_R rfl rfl; (intro W hW; (refine AF rfl ?_; refine AU rfl (by rfl) (ca W hW) ?_); exact AE ⟨rfl, rfl, rfl⟩))) <;> (first | refine Ab rfl rfl rfl rfl ?_ | (apply D_R rfl rfl; (intro W hW; (refine AF rfl ?_; refine AU rfl (by rfl) (cb W hW) ?_); exact AE ⟨rfl, rfl, rfl⟩))))
 rotate_left
 ·exact absurd rfl (by assumption)
 refine D_E rfl ?_
 (refine AF rfl ?_; refine AR (ris_ok x6 [99] 1) rfl ?_)
 rintro vC2 x7 ⟨e7, fC2⟩
 have h7 := h6.trans e7
 refine AE ⟨Ext wd, fun _ e => e, h7, ?_⟩
 refine D_E rfl ?_
 (refine AF rfl ?_; refine AR (Cl x7 5 _ _ hdB _ (fbd.ext h7) fC2) rfl ?_)
 rintro vD x8 ⟨e8, fD⟩
 obtain ⟨r0, r1, r2, r3, r4, rfl, or⟩ := FV.five fD
 have h8 := h7.trans e8
 refine AE ⟨Ext wd, fun _ e => e, h8, ?_⟩
 refine D_E rfl ?_
 (refine AF rfl ?_; refine AR (Cl x8 6 _ _ hdA hdB (fad.ext h8) (fbd.ext h8)) rfl ?_)
 rintro vE x9 ⟨e9, fE⟩
 obtain ⟨s0, s1, s2, s3, s4, rfl, os⟩ := FV.five fE
 have h9 := h8.trans e9
 refine AE ⟨Ext wd, fun _ e => e, h9, ?_⟩
 refine D_E rfl ?_
 (refine AF rfl ?_; refine AV (out := [a0, a1, a2, a3, a4, r0, r1, r2, r3, r4, s0, s1, s2, s3, s4]) rfl (by omega) (by rw [made15]; rfl) (fun xa ma => ?_))
 obtain ⟨Sa, Fa⟩ := FV.fresh (L := [[a0, a1, a2, a3, a4], [r0, r1, r2, r3, r4], [s0, s1, s2, s3, s4]]) ma (FsAt.cons (fad.ext h9) rfl (FsAt.two (fD.ext e9) rfl fE rfl)) (by simp)
 have ha := h9.trans ma.keep
 refine AE ⟨Ext wd, fun _ e => e, ha, ?_⟩
 refine D_E rfl ?_
 (refine AF rfl ?_; refine AR (rop_ok xa 5 Aw _ _ _ [hdA, ⟨5, [], 0, 0, [hdB, isF [99] 1]⟩, ⟨6, [], 0, 0, [hdA, hdB]⟩] Sa Fa) rfl ?_)
 rintro vG xb ⟨eb, fG⟩
 obtain ⟨u0, u1, u2, u3, u4, rfl, ou⟩ := FV.five fG
 have hb := ha.trans eb
 refine AE ⟨Ext wd, fun _ e => e, hb, ?_⟩
 refine D_E rfl ?_
 (refine AF rfl ?_; refine AR (print_F xb hd2 _ ⟨rfl, fG⟩ (hG.ext (kwd.trans hb)) (of_decide_eq_true (by kernel_rfl)) (hG.ext (kwd.trans hb)).size (fun _ => of_decide_eq_true (by kernel_rfl))) rfl ?_)
 rintro _ xc ⟨rfl, ec⟩
 rw [hd_p2]
 have hC := hb.trans ec
 refine AE ⟨Ext wd, fun _ e => e, hC, ?_⟩
 ((refine D_seql rfl rfl rfl rfl (fun hc => ?_) (fun hc => ?_)) <;> (apply D_R rfl rfl; (intro W hW; (refine AN rfl ?_; refine AC rfl ?_); exact AE ⟨rfl, rfl, rfl⟩)) <;> (apply D_R rfl rfl; (intro W hW; (refine AB ?_; refine AC rfl ?_); exact AE ⟨rfl, rfl, rfl⟩)) <;> refine A0 ?_)
 rotate_left
 ·exact absurd rfl (by assumption)
 repeat' first | refine nx rfl ?_ | fail
 have kAc := kd.trans hC
 have kwc := kwA.trans kAc
 replace fa := fa.ext kAc
 replace fb := fb.ext kAc
 replace ba := ba.keep kAc (by simp)
 replace bb := bb.keep kAc (by simp)
 replace bS := bS.keep kAc (by simp)
 replace fS := spcR.ext fS kAc
 clear ca cb fad fbd kwd h2 h3 h4 h5 h6 h7 h8 h9 ha hb Sa Fa ma fB fU fC fN fV fC2 fD fE fG kd
 refine Bv (α := Unit) (fun _ => [(1, pt w1.heap.size), (6, pt w5.heap.size), (8, .bool true), (9, .bool true), (10, .bool true)]) (fun _ W => Ext xc W) ?_ ?_
 ·refine BA (.read 0 (.read 3 (.read 4 (.alt 1 (.alt 2 (.alt 5 (.alt 6 (.alt 7 (.alt 8 (.alt 9 (.read 10 (.read 11 (.read 12 (.read 13 (.read 15 (.read 16 (.alt 14 (.alt 17 (.alt 18 (.alt 19 (.read 20 (.read 21 (.read 22 .done))) .stop) .stop) .stop) .stop))))))) .stop) .stop) .stop) .stop) .stop) (.alt 5 (.alt 2 (.alt 6 (.alt 7 (.alt 8 (.alt 9 (.read 10 (.read 11 (.read 12 (.read 13 (.read 15 (.read 16 (.alt 14 (.alt 17 (.alt 18 (.alt 19 (.read 20 (.read 21 (.read 22 .done))) .stop) .stop) .stop) .stop))))))) .stop) .stop) .stop) .stop) .stop) .stop)) (.alt 5 (.alt 1 (.alt 2 (.alt 6 (.alt 7 (.alt 8 (.alt 9 (.read 10 (.read 11 (.read 12 (.read 13 (.read 15 (.read 16 (.alt 14 (.alt 17 (.alt 18 (.alt 19 (.read 20 (.read 21 (.read 22 .done))) .stop) .stop) .stop) .stop))))))) .stop) .stop) .stop) .stop) .stop) .stop) .stop))))) A6 (by kernel_rfl) (fun wd kd ed => ⟨Ext wd, ?_, ?_⟩)
  ·exact Ext.refl _
  have ca : ∀ W, Ext wd W → Cells W w5.heap.size 0 [a0, a1, a2, a3, a4] := fun W e => ((ba.keep kd (by simp)).keep e (by simp)).cells
  have cb : ∀ W, Ext wd W → Cells W w7.heap.size 0 [b0, b1, b2, b3, b4] := fun W e => ((bb.keep kd (by simp)).keep e (by simp)).cells
  have fad := fa.ext kd
  have fbd := fb.ext kd
  have kwd := kwc.trans kd
  have er : Ext wd wd := Ext.refl _
  ((apply D_R rfl rfl; (intro W hW; refine AU rfl (by rfl) (ca W hW) ?_; exact AE ⟨rfl, rfl, rfl⟩)) <;> (apply D_R rfl rfl; (intro W hW; refine AU rfl (by rfl) (ca W hW) ?_; exact AE ⟨rfl, rfl, rfl⟩)) <;> (apply D_R rfl rfl; (intro W hW; refine AU rfl (by rfl) (cb W hW) ?_; exact AE ⟨rfl, rfl, rfl⟩)))
  refine D_A rfl ?_ ?_
  ·refine AV (out := [a0, a1, a2, a3, a4]) rfl (by omega) (by rw [made5]; rfl) (fun y1 m1 => ?_)
   have e1 := er.trans m1.keep
   obtain ⟨S1, F1⟩ := FV.fresh (L := [[a0, a1, a2, a3, a4]]) m1 (FsAt.one (fad.ext er) rfl) (by simp)
   try replace S5 := S5.ext m1.keep
   try replace F5 := F5.ext m1.keep
   refine AE ⟨Ext wd, fun _ e => e, e1, ?_⟩
   refine D_A rfl ?_ ?_
   ·refine AR (rlate_ok y1 15 1 Aw _ _ _ [hdA] S1 F1) rfl ?_
    rintro vY y2 ⟨q2, fY⟩
    obtain ⟨r0, r1, r2, r3, r4, rfl, or⟩ := FV.five fY
    have e2 := e1.trans q2
    try replace S5 := S5.ext q2
    try replace F5 := F5.ext q2
    refine AE ⟨Ext wd, fun _ e => e, e2, ?_⟩
    refine D_E rfl ?_
    refine AV (out := [a0, a1, a2, a3, a4, b0, b1, b2, b3, b4]) rfl (by omega) (by rw [made10]; rfl) (fun y5 m5 => ?_)
    have e5 := e2.trans m5.keep
    obtain ⟨S5, F5⟩ := FV.fresh (L := [[a0, a1, a2, a3, a4], [b0, b1, b2, b3, b4]]) m5 (FsAt.two (fad.ext e2) rfl (fbd.ext e2) rfl) (by simp)
    try replace S1 := S1.ext m5.keep
    try replace F1 := F1.ext m5.keep
    try replace fY := fY.ext m5.keep
    refine AE ⟨Ext wd, fun _ e => e, e5, ?_⟩
    refine D_E rfl ?_
    refine AR (rlate_ok y5 17 0 Aw _ _ _ [hdA, hdB] S5 F5) rfl ?_
    rintro vT y6 ⟨q6, fT⟩
    obtain ⟨s0, s1, s2, s3, s4, rfl, os⟩ := FV.five fT
    have e6 := e5.trans q6
    replace fY := fY.ext q6
    refine AE ⟨Ext wd, fun _ e => e, e6, ?_⟩
    refine D_E rfl ?_
    refine AV (out := [r0, r1, r2, r3, r4, s0, s1, s2, s3, s4]) rfl (by omega) (by rw [made10]; rfl) (fun y7 m7 => ?_)
    have e7 := e6.trans m7.keep
    obtain ⟨S7, F7⟩ := FV.fresh (L := [[r0, r1, r2, r3, r4], [s0, s1, s2, s3, s4]]) m7 (FsAt.two fY rfl fT rfl) (by simp)
    refine AE ⟨Ext wd, fun _ e => e, e7, ?_⟩
    refine D_E rfl ?_
    refine AR (rlate_ok y7 16 1 Aw _ _ _ [⟨15, [], 1, 0, [hdA]⟩, ⟨17, [], 0, 0, [hdA, hdB]⟩] S7 F7) rfl ?_
    rintro vS y8 ⟨q8, fU⟩
    obtain ⟨u0, u1, u2, u3, u4, rfl, ou⟩ := FV.five fU
    have e8 := e7.trans q8
    refine AE ⟨Ext wd, fun _ e => e, e8, ?_⟩
    refine D_E rfl ?_
    refine AR (print_F y8 hd3 _ ⟨rfl, fU⟩ (hG.ext (kwd.trans e8)) (of_decide_eq_true (by kernel_rfl)) (hG.ext (kwd.trans e8)).size (fun _ => of_decide_eq_true (by kernel_rfl))) rfl ?_
    rintro _ y9 ⟨rfl, q9⟩
    rw [hd_p3]
    have e9 := e8.trans q9
    refine AE ⟨Ext wd, fun _ e => e, e9, ?_⟩
    ((refine D_seql rfl rfl rfl rfl (fun hc => ?_) (fun hc => ?_)) <;> (apply D_R rfl rfl; (intro W hW; refine AC rfl ?_; exact AE ⟨rfl, rfl, rfl⟩)) <;> (first | refine Ab rfl rfl rfl rfl ?_ | (apply D_R rfl rfl; (intro W hW; (refine AF rfl ?_; refine AU rfl (by rfl) (ca W hW) ?_); exact AE ⟨rfl, rfl, rfl⟩))) <;> (first | refine Ab rfl rfl rfl rfl ?_ | (apply D_R rfl rfl; (intro W hW; (refine AF rfl ?_; refine AU rfl (by rfl) (cb W hW) ?_); exact AE ⟨rfl, rfl, rfl⟩))) <;> (first | refine Ab rfl rfl rfl rfl ?_ | (apply D_R rfl rfl; (intro W hW; (refine AF rfl ?_; refine AU rfl (by rfl) (ca W hW) ?_); exact AE ⟨rfl, rfl, rfl⟩))) <;> (first | refine Ab rfl rfl rfl rfl ?_ | (apply D_R rfl rfl; (intro W hW; (refine AF rfl ?_; refine AU rfl (by rfl) (cb W hW) ?_); exact AE ⟨rfl, rfl, rfl⟩))))
    rotate_left
    ·exact absurd rfl (by assumption)
    refine D_E rfl ?_
    (refine AF rfl ?_; refine AR (Cl y9 7 _ _ hdA hdB (fad.ext e9) (fbd.ext e9)) rfl ?_)
    rintro vI ya ⟨qa, fI⟩
    have ea := e9.trans qa
    refine AE ⟨Ext wd, fun _ e => e, ea, ?_⟩
    refine D_E rfl ?_
    (refine AF rfl ?_; refine AR (Cl ya 7 _ _ hdA hdB (fad.ext ea) (fbd.ext ea)) rfl ?_)
    rintro vJ yb ⟨qb, fJ⟩
    have eb := ea.trans qb
    refine AE ⟨Ext wd, fun _ e => e, eb, ?_⟩
    refine D_E rfl ?_
    (refine AF rfl ?_; refine AR (Cl yb 7 _ _ _ _ (fI.ext qb) fJ) rfl ?_)
    rintro vK yc ⟨qc, fK⟩
    obtain ⟨t0, t1, t2, t3, t4, rfl, ot⟩ := FV.five fK
    have ec := eb.trans qc
    refine AE ⟨Ext wd, fun _ e => e, ec, ?_⟩
    refine D_E rfl ?_
    (refine AF rfl ?_; refine AR (print_F yc hd4 _ ⟨rfl, fK⟩ (hG.ext (kwd.trans ec)) (of_decide_eq_true (by kernel_rfl)) (hG.ext (kwd.trans ec)).size (fun _ => of_decide_eq_true (by kernel_rfl))) rfl ?_)
    rintro _ yd ⟨rfl, qd⟩
    rw [hd_p4]
    have ed := ec.trans qd
    refine AE ⟨Ext wd, fun _ e => e, ed, ?_⟩
    ((refine D_seql rfl rfl rfl rfl (fun hc => ?_) (fun hc => ?_)) <;> (apply D_R rfl rfl; (intro W hW; (refine AN rfl ?_; refine AC rfl ?_); exact AE ⟨rfl, rfl, rfl⟩)) <;> (apply D_R rfl rfl; (intro W hW; (refine AB ?_; refine AC rfl ?_); exact AE ⟨rfl, rfl, rfl⟩)) <;> refine A0 ?_)
    rotate_left
    ·exact absurd rfl (by assumption)
    repeat' first | refine nx rfl ?_ | fail
    exact Am () ⟨rfl, rfl, rfl, rfl, rfl, trivial⟩ (kd.trans ed)
   ·refine D_E rfl ?_
    refine AV (out := [a0, a1, a2, a3, a4, b0, b1, b2, b3, b4]) rfl (by omega) (by rw [made10]; rfl) (fun y5 m5 => ?_)
    have e5 := e1.trans m5.keep
    obtain ⟨S5, F5⟩ := FV.fresh (L := [[a0, a1, a2, a3, a4], [b0, b1, b2, b3, b4]]) m5 (FsAt.two (fad.ext e1) rfl (fbd.ext e1) rfl) (by simp)
    try replace S1 := S1.ext m5.keep
    try replace F1 := F1.ext m5.keep
    try replace fY := fY.ext m5.keep
    refine AE ⟨Ext wd, fun _ e => e, e5, ?_⟩
    refine D_E rfl ?_
    refine AR (rlate_ok y5 15 1 Aw _ _ _ [hdA] S1 F1) rfl ?_
    rintro vY y2 ⟨q2, fY⟩
    obtain ⟨r0, r1, r2, r3, r4, rfl, or⟩ := FV.five fY
    have e2 := e5.trans q2
    try replace S5 := S5.ext q2
    try replace F5 := F5.ext q2
    refine AE ⟨Ext wd, fun _ e => e, e2, ?_⟩
    refine D_E rfl ?_
    refine AR (rlate_ok y2 17 0 Aw _ _ _ [hdA, hdB] S5 F5) rfl ?_
    rintro vT y6 ⟨q6, fT⟩
    obtain ⟨s0, s1, s2, s3, s4, rfl, os⟩ := FV.five fT
    have e6 := e2.trans q6
    replace fY := fY.ext q6
    refine AE ⟨Ext wd, fun _ e => e, e6, ?_⟩
    refine D_E rfl ?_
    refine AV (out := [r0, r1, r2, r3, r4, s0, s1, s2, s3, s4]) rfl (by omega) (by rw [made10]; rfl) (fun y7 m7 => ?_)
    have e7 := e6.trans m7.keep
    obtain ⟨S7, F7⟩ := FV.fresh (L := [[r0, r1, r2, r3, r4], [s0, s1, s2, s3, s4]]) m7 (FsAt.two fY rfl fT rfl) (by simp)
    refine AE ⟨Ext wd, fun _ e => e, e7, ?_⟩
    refine D_E rfl ?_
    refine AR (rlate_ok y7 16 1 Aw _ _ _ [⟨15, [], 1, 0, [hdA]⟩, ⟨17, [], 0, 0, [hdA, hdB]⟩] S7 F7) rfl ?_
    rintro vS y8 ⟨q8, fU⟩
    obtain ⟨u0, u1, u2, u3, u4, rfl, ou⟩ := FV.five fU
    have e8 := e7.trans q8
    refine AE ⟨Ext wd, fun _ e => e, e8, ?_⟩
    refine D_E rfl ?_
    refine AR (print_F y8 hd3 _ ⟨rfl, fU⟩ (hG.ext (kwd.trans e8)) (of_decide_eq_true (by kernel_rfl)) (hG.ext (kwd.trans e8)).size (fun _ => of_decide_eq_true (by kernel_rfl))) rfl ?_
    rintro _ y9 ⟨rfl, q9⟩
    rw [hd_p3]
    have e9 := e8.trans q9
    refine AE ⟨Ext wd, fun _ e => e, e9, ?_⟩
    ((refine D_seql rfl rfl rfl rfl (fun hc => ?_) (fun hc => ?_)) <;> (apply D_R rfl rfl; (intro W hW; refine AC rfl ?_; exact AE ⟨rfl, rfl, rfl⟩)) <;> (first | refine Ab rfl rfl rfl rfl ?_ | (apply D_R rfl rfl; (intro W hW; (refine AF rfl ?_; refine AU rfl (by rfl) (ca W hW) ?_); exact AE ⟨rfl, rfl, rfl⟩))) <;> (first | refine Ab rfl rfl rfl rfl ?_ | (apply D_R rfl rfl; (intro W hW; (refine AF rfl ?_; refine AU rfl (by rfl) (cb W hW) ?_); exact AE ⟨rfl, rfl, rfl⟩))) <;> (first | refine Ab rfl rfl rfl rfl ?_ | (apply D_R rfl rfl; (intro W hW; (refine AF rfl ?_; refine AU rfl (by rfl) (ca W hW) ?_); exact AE ⟨rfl, rfl, rfl⟩))) <;> (first | refine Ab rfl rfl rfl rfl ?_ | (apply D_R rfl rfl; (intro W hW; (refine AF rfl ?_; refine AU rfl (by rfl) (cb W hW) ?_); exact AE ⟨rfl, rfl, rfl⟩))))
    rotate_left
    ·exact absurd rfl (by assumption)
    refine D_E rfl ?_
    (refine AF rfl ?_; refine AR (Cl y9 7 _ _ hdA hdB (fad.ext e9) (fbd.ext e9)) rfl ?_)
    rintro vI ya ⟨qa, fI⟩
    have ea := e9.trans qa
    refine AE ⟨Ext wd, fun _ e => e, ea, ?_⟩
    refine D_E rfl ?_
    (refine AF rfl ?_; refine AR (Cl ya 7 _ _ hdA hdB (fad.ext ea) (fbd.ext ea)) rfl ?_)
    rintro vJ yb ⟨qb, fJ⟩
    have eb := ea.trans qb
    refine AE ⟨Ext wd, fun _ e => e, eb, ?_⟩
    refine D_E rfl ?_
    (refine AF rfl ?_; refine AR (Cl yb 7 _ _ _ _ (fI.ext qb) fJ) rfl ?_)
    rintro vK yc ⟨qc, fK⟩
    obtain ⟨t0, t1, t2, t3, t4, rfl, ot⟩ := FV.five fK
    have ec := eb.trans qc
    refine AE ⟨Ext wd, fun _ e => e, ec, ?_⟩
    refine D_E rfl ?_
    (refine AF rfl ?_; refine AR (print_F yc hd4 _ ⟨rfl, fK⟩ (hG.ext (kwd.trans ec)) (of_decide_eq_true (by kernel_rfl)) (hG.ext (kwd.trans ec)).size (fun _ => of_decide_eq_true (by kernel_rfl))) rfl ?_)
    rintro _ yd ⟨rfl, qd⟩
    rw [hd_p4]
    have ed := ec.trans qd
    refine AE ⟨Ext wd, fun _ e => e, ed, ?_⟩
    ((refine D_seql rfl rfl rfl rfl (fun hc => ?_) (fun hc => ?_)) <;> (apply D_R rfl rfl; (intro W hW; (refine AN rfl ?_; refine AC rfl ?_); exact AE ⟨rfl, rfl, rfl⟩)) <;> (apply D_R rfl rfl; (intro W hW; (refine AB ?_; refine AC rfl ?_); exact AE ⟨rfl, rfl, rfl⟩)) <;> refine A0 ?_)
    rotate_left
    ·exact absurd rfl (by assumption)
    repeat' first | refine nx rfl ?_ | fail
    exact Am () ⟨rfl, rfl, rfl, rfl, rfl, trivial⟩ (kd.trans ed)
  ·refine D_E rfl ?_
   refine AV (out := [a0, a1, a2, a3, a4, b0, b1, b2, b3, b4]) rfl (by omega) (by rw [made10]; rfl) (fun y5 m5 => ?_)
   have e5 := er.trans m5.keep
   obtain ⟨S5, F5⟩ := FV.fresh (L := [[a0, a1, a2, a3, a4], [b0, b1, b2, b3, b4]]) m5 (FsAt.two (fad.ext er) rfl (fbd.ext er) rfl) (by simp)
   try replace S1 := S1.ext m5.keep
   try replace F1 := F1.ext m5.keep
   try replace fY := fY.ext m5.keep
   refine AE ⟨Ext wd, fun _ e => e, e5, ?_⟩
   refine D_E rfl ?_
   refine AV (out := [a0, a1, a2, a3, a4]) rfl (by omega) (by rw [made5]; rfl) (fun y1 m1 => ?_)
   have e1 := e5.trans m1.keep
   obtain ⟨S1, F1⟩ := FV.fresh (L := [[a0, a1, a2, a3, a4]]) m1 (FsAt.one (fad.ext e5) rfl) (by simp)
   try replace S5 := S5.ext m1.keep
   try replace F5 := F5.ext m1.keep
   refine AE ⟨Ext wd, fun _ e => e, e1, ?_⟩
   refine D_E rfl ?_
   refine AR (rlate_ok y1 15 1 Aw _ _ _ [hdA] S1 F1) rfl ?_
   rintro vY y2 ⟨q2, fY⟩
   obtain ⟨r0, r1, r2, r3, r4, rfl, or⟩ := FV.five fY
   have e2 := e1.trans q2
   try replace S5 := S5.ext q2
   try replace F5 := F5.ext q2
   refine AE ⟨Ext wd, fun _ e => e, e2, ?_⟩
   refine D_E rfl ?_
   refine AR (rlate_ok y2 17 0 Aw _ _ _ [hdA, hdB] S5 F5) rfl ?_
   rintro vT y6 ⟨q6, fT⟩
   obtain ⟨s0, s1, s2, s3, s4, rfl, os⟩ := FV.five fT
   have e6 := e2.trans q6
   replace fY := fY.ext q6
   refine AE ⟨Ext wd, fun _ e => e, e6, ?_⟩
   refine D_E rfl ?_
   refine AV (out := [r0, r1, r2, r3, r4, s0, s1, s2, s3, s4]) rfl (by omega) (by rw [made10]; rfl) (fun y7 m7 => ?_)
   have e7 := e6.trans m7.keep
   obtain ⟨S7, F7⟩ := FV.fresh (L := [[r0, r1, r2, r3, r4], [s0, s1, s2, s3, s4]]) m7 (FsAt.two fY rfl fT rfl) (by simp)
   refine AE ⟨Ext wd, fun _ e => e, e7, ?_⟩
   refine D_E rfl ?_
   refine AR (rlate_ok y7 16 1 Aw _ _ _ [⟨15, [], 1, 0, [hdA]⟩, ⟨17, [], 0, 0, [hdA, hdB]⟩] S7 F7) rfl ?_
   rintro vS y8 ⟨q8, fU⟩
   obtain ⟨u0, u1, u2, u3, u4, rfl, ou⟩ := FV.five fU
   have e8 := e7.trans q8
   refine AE ⟨Ext wd, fun _ e => e, e8, ?_⟩
   refine D_E rfl ?_
   refine AR (print_F y8 hd3 _ ⟨rfl, fU⟩ (hG.ext (kwd.trans e8)) (of_decide_eq_true (by kernel_rfl)) (hG.ext (kwd.trans e8)).size (fun _ => of_decide_eq_true (by kernel_rfl))) rfl ?_
   rintro _ y9 ⟨rfl, q9⟩
   rw [hd_p3]
   have e9 := e8.trans q9
   refine AE ⟨Ext wd, fun _ e => e, e9, ?_⟩
   ((refine D_seql rfl rfl rfl rfl (fun hc => ?_) (fun hc => ?_)) <;> (apply D_R rfl rfl; (intro W hW; refine AC rfl ?_; exact AE ⟨rfl, rfl, rfl⟩)) <;> (first | refine Ab rfl rfl rfl rfl ?_ | (apply D_R rfl rfl; (intro W hW; (refine AF rfl ?_; refine AU rfl (by rfl) (ca W hW) ?_); exact AE ⟨rfl, rfl, rfl⟩))) <;> (first | refine Ab rfl rfl rfl rfl ?_ | (apply D_R rfl rfl; (intro W hW; (refine AF rfl ?_; refine AU rfl (by rfl) (cb W hW) ?_); exact AE ⟨rfl, rfl, rfl⟩))) <;> (first | refine Ab rfl rfl rfl rfl ?_ | (apply D_R rfl rfl; (intro W hW; (refine AF rfl ?_; refine AU rfl (by rfl) (ca W hW) ?_); exact AE ⟨rfl, rfl, rfl⟩))) <;> (first | refine Ab rfl rfl rfl rfl ?_ | (apply D_R rfl rfl; (intro W hW; (refine AF rfl ?_; refine AU rfl (by rfl) (cb W hW) ?_); exact AE ⟨rfl, rfl, rfl⟩))))
   rotate_left
   ·exact absurd rfl (by assumption)
   refine D_E rfl ?_
   (refine AF rfl ?_; refine AR (Cl y9 7 _ _ hdA hdB (fad.ext e9) (fbd.ext e9)) rfl ?_)
   rintro vI ya ⟨qa, fI⟩
   have ea := e9.trans qa
   refine AE ⟨Ext wd, fun _ e => e, ea, ?_⟩
   refine D_E rfl ?_
   (refine AF rfl ?_; refine AR (Cl ya 7 _ _ hdA hdB (fad.ext ea) (fbd.ext ea)) rfl ?_)
   rintro vJ yb ⟨qb, fJ⟩
   have eb := ea.trans qb
   refine AE ⟨Ext wd, fun _ e => e, eb, ?_⟩
   refine D_E rfl ?_
   (refine AF rfl ?_; refine AR (Cl yb 7 _ _ _ _ (fI.ext qb) fJ) rfl ?_)
   rintro vK yc ⟨qc, fK⟩
   obtain ⟨t0, t1, t2, t3, t4, rfl, ot⟩ := FV.five fK
   have ec := eb.trans qc
   refine AE ⟨Ext wd, fun _ e => e, ec, ?_⟩
   refine D_E rfl ?_
   (refine AF rfl ?_; refine AR (print_F yc hd4 _ ⟨rfl, fK⟩ (hG.ext (kwd.trans ec)) (of_decide_eq_true (by kernel_rfl)) (hG.ext (kwd.trans ec)).size (fun _ => of_decide_eq_true (by kernel_rfl))) rfl ?_)
   rintro _ yd ⟨rfl, qd⟩
   rw [hd_p4]
   have ed := ec.trans qd
   refine AE ⟨Ext wd, fun _ e => e, ed, ?_⟩
   ((refine D_seql rfl rfl rfl rfl (fun hc => ?_) (fun hc => ?_)) <;> (apply D_R rfl rfl; (intro W hW; (refine AN rfl ?_; refine AC rfl ?_); exact AE ⟨rfl, rfl, rfl⟩)) <;> (apply D_R rfl rfl; (intro W hW; (refine AB ?_; refine AC rfl ?_); exact AE ⟨rfl, rfl, rfl⟩)) <;> refine A0 ?_)
   rotate_left
   ·exact absurd rfl (by assumption)
   repeat' first | refine nx rfl ?_ | fail
   exact Am () ⟨rfl, rfl, rfl, rfl, rfl, trivial⟩ (kd.trans ed)
 rintro _ v0 f0 kv
 replace fa := fa.ext kv
 replace ba := ba.keep kv (by simp)
 replace bS := bS.keep kv (by simp)
 replace fS := spcR.ext fS kv
 replace kv := kwc.trans kv
 clear bb fb kwc
 repeat' first | refine nx rfl ?_ | fail
 have l1 := bS.lt
 obtain ⟨sv, rv, rfl, hsv, ra, rc, LR, rfl, SR, FR⟩ := fS
 obtain ⟨cy, hcy⟩ : ∃ cy, LR[2]? = some cy := ⟨_, List.getElem?_eq_getElem (by rw [FR.1]; decide)⟩
 have hcf := FR.2 2 cy _ hcy rfl
 obtain ⟨bq, oq, rfl, _, hcq⟩ := SR.recs FR (sz := 8) rfl hcy (by decide)
 obtain ⟨cf, rfl, hcl, hff⟩ := hcf
 obtain ⟨q0, q1, q2, q3, q4, rfl⟩ := CD hcl
 (refine AA ?_ <;> refine Ac (by rfl) (by rfl) ?_ <;> refine Ac (by rfl) (by rfl) ?_)
 refine AR (print_D v0 ⟨2, ⟨[], [103], 0, zeroF⟩⟩ [.int .i64 2, AM [], AM [103], .int .i64 0, .int .i64 0, AM [], .int .i64 0, .int .i64 0, .slice none 0 0] ⟨_, rfl, _, rfl, rfl, FAt.leaf _ _ _ _ _ _⟩ (hG.ext kv) (of_decide_eq_true (by kernel_rfl)) (hG.ext kv).size (fun _ => of_decide_eq_true (by kernel_rfl))) rfl ?_
 rintro _ v1 ⟨rfl, j1⟩
 rw [hd_p6]
 have e1 : v1.cell? ⟨w1.heap.size, 0 + 1, none⟩ = some (.slice (some ⟨bq, oq, none⟩) 3 rc) := (bS.keep j1 (by simp)).cell rfl
 refine Bu rfl rfl (fun _ => ?_) (fun h => absurd rfl h)
 (refine AC rfl (AF rfl (AD rfl (AF rfl ?_))) <;> refine AG rfl (by assumption) ?_)
 (refine AF rfl ?_; refine BP (k := 2) rfl rfl rfl (by decide) ?_)
 (refine AF rfl ?_; refine AU (L := [AM [113], AM [111, 110, 101], .int .i64 2, q0, q1, q2, q3, q4]) rfl rfl (hcq.keep j1 (by simp)) ?_)
 ((refine AF rfl ?_; refine Ac (by rfl) (by rfl) ?_))
 (refine AF rfl ?_; refine AR (print_D v1 ⟨1, ⟨[113], [111, 110, 101], 2, isF [103] 2⟩⟩ [.int .i64 1, AM [113], AM [111, 110, 101], .int .i64 2, q0, q1, q2, q3, q4] ⟨_, rfl, _, rfl, rfl, hff.ext j1⟩ (hG.ext (kv.trans j1)) (of_decide_eq_true (by kernel_rfl)) (hG.ext (kv.trans j1)).size (fun _ => of_decide_eq_true (by kernel_rfl))) rfl ?_)
 rintro _ v2 ⟨rfl, j2⟩
 rw [hd_p7]
 (refine AF rfl ?_; refine Bu rfl rfl (fun _ => ?_) (fun h => absurd rfl h))
 refine AN rfl (AC rfl (AC rfl ?_))
 (refine AF rfl ?_; refine AR (ris_ok v2 [71] 1) rfl ?_)
 rintro vg v3 ⟨j3, fg⟩
 obtain ⟨g0, g1, g2, g3, g4, rfl, og⟩ := FV.five fg
 have j13 := (j1.trans j2).trans j3
 have kv3 := kv.trans j13
 (refine AF rfl ?_; refine AR (print_F v3 (isF [71] 1) _ ⟨rfl, fg⟩ (hG.ext kv3) (of_decide_eq_true (by kernel_rfl)) (hG.ext kv3).size (fun _ => of_decide_eq_true (by kernel_rfl))) rfl ?_)
 rintro _ v4 ⟨rfl, j4⟩
 rw [hd_p5]
 have kv4 := kv3.trans j4
 (refine AF rfl ?_; refine Bu rfl rfl (fun _ => ?_) (fun h => absurd rfl h))
 (refine AN rfl (AC rfl (AC rfl (AF rfl ?_))) <;> refine Ac (by rfl) (by rfl) ?_)
 (refine AF rfl ?_; refine AR (print_D v4 ⟨0, ⟨[], [], 0, zeroF⟩⟩ [.int .i64 0, AM [], AM [], .int .i64 0, .int .i64 0, AM [], .int .i64 0, .int .i64 0, .slice none 0 0] ⟨_, rfl, _, rfl, rfl, FAt.leaf _ _ _ _ _ _⟩ (hG.ext kv4) (of_decide_eq_true (by kernel_rfl)) (hG.ext kv4).size (fun _ => of_decide_eq_true (by kernel_rfl))) rfl ?_)
 rintro _ v5 ⟨rfl, j5⟩
 rw [hd_p8]
 (refine AF rfl ?_; refine Bu rfl rfl (fun _ => ?_) (fun h => absurd rfl h))
 refine AN rfl (AC rfl (AB (AC rfl ?_)))
 repeat' first | refine nx rfl ?_ | fail
 have kv5 := kv4.trans j5
 (refine AA ?_)
 refine AR (lexK v5 _ _ 2 hd_lex rfl (hG.ext kv5).gk.gv) rfl ?_
 rintro _ v6 ⟨la, lc, rfl, j6, _⟩
 have j06 := ((j13.trans j4).trans j5).trans j6
 have kv6 := kv.trans j06
 refine Bl rfl (Aj rfl rfl (Aj rfl rfl (Aj rfl rfl (AB (Ak rfl (AB (AI rfl (AB (AI rfl ?_)))))))))
 repeat' first | refine nx rfl ?_ | fail
 have b6 := bS.keep j06 (by simp)
 have e6 : v6.cell? ⟨w1.heap.size, 0 + 0, none⟩ = some sv := b6.cell rfl
 (refine AA (AC rfl (AC rfl (AF rfl (AC rfl (AN rfl (AC rfl (AC rfl (AF rfl (AC rfl (AN rfl (AC rfl (AC rfl (AF rfl (AC rfl (AN rfl (AC rfl (AC rfl (AF rfl (AI rfl ?_))))))))))))))))))) <;> (refine AF rfl ?_; (refine AH rfl rfl (fun hc => ?_) (fun hc => ?_) <;> try omega)) <;> refine AN rfl (AC rfl (AC rfl (AF rfl (Ak rfl (AF rfl (Ao rfl ?_)))))) <;> (refine AF rfl ?_; (refine AH rfl rfl (fun hc => ?_) (fun hc => ?_) <;> try omega)) <;> refine AN rfl (AC rfl (AC rfl ?_)))
 (refine AF rfl ?_; refine AW rfl (ba.keep j06 (by simp)) rfl ?_)
 (refine AF rfl ?_; refine AR (fsize_ok v6 _ hdA (fa.ext j06) (hF.ext kv6) (hG.ext kv6).size (of_decide_eq_true (by kernel_rfl)) (of_decide_eq_true (by kernel_rfl))) rfl ?_)
 rintro _ v7 ⟨rfl, j7⟩
 rw [show ((szF hdA : Nat) : Int) = 1 by kernel_rfl]
 have e7 : v7.cell? ⟨w1.heap.size, 0 + 0, none⟩ = some sv := j7.cell e6 (by simp)
 ((refine AF rfl ?_; (refine AH rfl rfl (fun hc => ?_) (fun hc => ?_) <;> try omega)) <;> refine AN rfl (AC rfl (AC rfl (AF rfl (AD rfl (AF rfl ?_))))) <;> refine AG rfl (by assumption) ?_)
 (refine AF rfl ?_; refine AR (sigFind_ok v7 sv exS.sigs [103] ((hsv.ext j06).ext j7)) rfl ?_)
 rintro _ v8 ⟨rfl, rfl⟩
 rw [show findM exS.sigs [103] = 1 by kernel_rfl]
 ((refine AF rfl ?_; (refine AH rfl rfl (fun hc => ?_) (fun hc => ?_) <;> try omega)) <;> refine AN rfl (AC rfl (AB (AC rfl ?_))))
 repeat' first | refine nx rfl ?_ | fail
 exact AL rfl ⟨rfl, kv6.trans j7⟩
end Go.Proofs.YtfcgdbmoncnibaaGreatDoor
namespace Go.Proofs.YtfcgdbmoncnibaaGreatDoor
open Go.RowKit
set_option linter.unusedVariables false
theorem spcT_len {s : Spc} (h : Cr s = true) : (spcT s).length ≤ 44 * szS s := by
 simp only [Cr, Bool.and_eq_true] at h
 have h1 := sigs_len _ h.1
 have h2 := rqs_len s.reqs s.reqs.length (Nat.le_refl _) (by rw [List.take_length]; exact h.2)
 rw [List.take_length] at h2
 unfold spcT rqsT szS
 rw [List.length_append]; omega
theorem edtT_len {e : Edt} (h : okE e = true) : (edtT e).length ≤ 44 * szF e.req.formula + 60 := by
 unfold okE at h
 unfold edtT
 split at h
 ·rw [if_pos (by assumption), List.length_append]
  have := (BB (Bool.and_eq_true _ _ ▸ h).2).2.1
  simp; omega
 ·rw [if_neg (by assumption)]
  simp only [Bool.and_eq_true] at h
  have h1 := (BB h.1.2).2.1
  have h2 := reqT_len h.2
  split <;> simp <;> omega
theorem prtF_len {f : Fml} (h : okF f = true) : (prF 0 f).length ≤ 44 * szF f := by have := prF_len _ f (Nat.le_refl _) h 0; omega
def fT (f : Fml) : List UInt8 := if okF f then prF 0 f else []
def sT (s : Spc) : List UInt8 := if Cr s then spcT s else []
def dT (e : Edt) : List UInt8 := if okE e then edtT e else []
theorem prtF_ok (w : World) (v : Value) (f : Fml) (hf : FAt Aw w v f) (hG : GP w) (hz : szF f ≤ 1000000) : Fn Tryz.prog 14 [v] w fun u w' => u = AM (fT f) ∧ Ext w w' := by
 obtain ⟨c, rfl, hc, _⟩ := hf.cells
 exact print_F w f c ⟨hc, hf⟩ hG hz hG.size fun h => by have := prtF_len h; omega
theorem prtS_ok (w : World) (c : List Value) (s : Spc) (hs : spcR.fits Aw w c s) (hG : GP w) (hz : szS s ≤ 1000000) : Fn Tryz.prog 16 [.agg c.toArray] w fun u w' => u = AM (sT s) ∧ Ext w w' :=
 print_S w s c hs hG hz hG.size fun h => by have := spcT_len h; omega
theorem prtD_ok (w : World) (c : List Value) (e : Edt) (he : edtR.fits Aw w c e) (hG : GP w) (hz : szF e.req.formula ≤ 1000000) : Fn Tryz.prog 18 [.agg c.toArray] w fun u w' => u = AM (dT e) ∧ Ext w w' :=
 print_D w e c he hG hz hG.size fun h => by have := edtT_len h; omega
end Go.Proofs.YtfcgdbmoncnibaaGreatDoor
