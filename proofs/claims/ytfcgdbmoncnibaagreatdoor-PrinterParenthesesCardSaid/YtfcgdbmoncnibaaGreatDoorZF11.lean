/- The printer's plain law: how much is written. The printer: a formula, walked. The printer: requirements and signals, walked. The printer: signals and specifications, walked. The printer: a specification, walked. The printer: an edit, walked. The printer: what is written, or nothing. Conditions: none. -/
import Derived.Test.YtfcgdbmoncnibaaGreatDoorZF10

namespace Go.Proofs.YtfcgdbmoncnibaaGreatDoor
set_option linter.unusedVariables false
theorem okF_eq (f : Fml) : okF f = (Bq f.op f.name f.val f.bound f.args.length && okL f.args) := by cases f; simp [okF, Fml.op, Fml.name, Fml.val, Fml.bound, Fml.args]
def pcOk : Pc → Bool
 | .txt _ => true
 | .sub f _ => okF f
def C0 : Pc → Nat
 | .txt t => t.length
 | .sub f _ => 44 * szF f - 22
def pcWt : Pc → Nat
 | .txt _ => 1
 | .sub f _ => 8 * szF f - 4
def pcFit : Pc → Prop
 | .txt _ => True
 | .sub f n => n ≤ 9 ∧ szF f ≤ 1000000
def CO (g : Pc → Nat) (ps : List Pc) : Nat := (ps.map g).sum
theorem Cb (g : Pc → Nat) (a b : List Pc) : CO g (a ++ b) = CO g a + CO g b := by simp [CO]
theorem sumP_rev (g : Pc → Nat) (a : List Pc) : CO g a.reverse = CO g a := by simp [CO, List.map_reverse, List.sum_reverse]
theorem Cj (g : Pc → Nat) (p : Pc) (a : List Pc) : CO g (p :: a) = g p + CO g a := by simp [CO]
theorem sumP_nil (g : Pc → Nat) : CO g [] = 0 := rfl
theorem wt_argP (next : Nat) (sg : List UInt8) : ∀ l, CO pcWt (argP next sg l) + 3 * l.length ≤ 8 * szL l
 | [] => by simp [argP, CO]
 | a :: l => by
  have := wt_argP next sg l
  have := szF_pos a
  simp only [argP, Cj, szL, pcWt, List.length_cons]; omega
theorem pot_argP (next : Nat) (sg : List UInt8) (hs : sg.length ≤ 20) : ∀ l, CO C0 (argP next sg l) + 2 * l.length ≤ 44 * szL l
 | [] => by simp [argP, CO]
 | a :: l => by
  have := pot_argP next sg hs l
  have := szF_pos a
  simp only [argP, Cj, szL, C0, List.length_cons]; omega
theorem ok_argP (next : Nat) (sg : List UInt8) : ∀ l, (argP next sg l).all pcOk = okL l
 | [] => by simp [argP, okL]
 | a :: l => by simp [argP, okL, pcOk, ok_argP next sg l]
theorem sgT_len {op v b : Int} {nm : List UInt8} {k : Nat} (h : Bq op nm v b k = true) : (sgT op nm v b).length ≤ 20 := by
 obtain ⟨s, hs, _, _, h1, h2, h3, h4, h5, _⟩ := node_parts h
 have hsg : s.sign.length ≤ 5 ∧ s.val ≤ 9999 ∧ s.bound ≤ 9999 := by
  rcases op_cases hs with h | h | h | h | h | h | h | h | h | h | h | h | h | h | h | h | h | h | h <;> rw [h] at hs <;> simp [BB, styL, List.lookup] at hs <;> subst hs <;> decide
 have esd : BW op = s := by unfold BW; rw [hs]; rfl
 have hv : (DJ v).length ≤ 4 := digs_len (by omega)
 have hb : (DJ b).length ≤ 4 := digs_len (by omega)
 unfold sgT
 rw [esd]
 split
 ·rename_i h0
  have := (Ba (h5 h0)).2.1
  split
  ·omega
  ·simp; omega
 split
 ·simp; omega
 split
 ·split <;> simp
 split
 ·split
  ·simp; omega
  ·simp; omega
 ·omega
theorem wt_pcs {f : Fml} (s : Sty) (n : Nat) : CO pcWt (pcs s n f) < pcWt (.sub f n) := by
 have h1 : CO pcWt (Cq s n) ≤ 1 := by unfold Cq; split <;> simp [CO, pcWt]
 have h2 : CO pcWt (C2 s n) ≤ 1 := by unfold C2; split <;> simp [CO, pcWt]
 have h3 : CO pcWt (CP (sgT f.op f.name f.val f.bound) f.args.length) ≤ 1 := by unfold CP; split <;> simp [CO, pcWt]
 have h4 := szF_eq f
 unfold pcs
 rw [Cb, Cb, Cb]
 have h5 : CO pcWt (CT s.first s.next (sgT f.op f.name f.val f.bound) f.args) ≤ 8 * szL f.args := by
  cases f.args with
  | nil => simp [CT, CO]
  | cons a l =>
   have := wt_argP s.next (sgT f.op f.name f.val f.bound) l
   have := szF_pos a
   simp only [CT, Cj, szL, pcWt]; omega
 simp only [pcWt]
 omega
theorem pot_pcs {f : Fml} {s : Sty} {n : Nat} (h : Bq f.op f.name f.val f.bound f.args.length = true) : CO C0 (pcs s n f) ≤ C0 (.sub f n) := by
 have hg := sgT_len h
 have h1 : CO C0 (Cq s n) ≤ 1 := by unfold Cq; split <;> simp [CO, C0]
 have h2 : CO C0 (C2 s n) ≤ 1 := by unfold C2; split <;> simp [CO, C0]
 have h4 := szF_eq f
 unfold pcs
 generalize sgT f.op f.name f.val f.bound = sg at hg ⊢
 rw [Cb, Cb, Cb]
 have h5 : CO C0 (CP sg f.args.length) + CO C0 (CT s.first s.next sg f.args) ≤ 44 * szL f.args + 20 := by
  cases f.args with
  | nil => simp [CT, CP, CO, C0]; omega
  | cons a l =>
   have := pot_argP s.next sg hg l
   have := szF_pos a
   have h6 : CO C0 (CP sg (a :: l).length) ≤ 20 := by unfold CP; split <;> simp [CO, C0] <;> omega
   simp only [CT, Cj, szL, C0]; omega
 simp only [C0]
 omega
theorem ok_pcs (f : Fml) (s : Sty) (n : Nat) : (pcs s n f).all pcOk = okL f.args := by
 have h1 : (Cq s n).all pcOk = true := by unfold Cq; split <;> simp [pcOk]
 have h2 : (C2 s n).all pcOk = true := by unfold C2; split <;> simp [pcOk]
 have h3 : ∀ sg k, (CP sg k).all pcOk = true := fun sg k => by unfold CP; split <;> simp [pcOk]
 unfold pcs
 rw [List.all_append, List.all_append, List.all_append, h1, h2, h3]
 cases f.args with
 | nil => simp [CT, okL]
 | cons a l => simp [CT, okL, pcOk, ok_argP]
theorem fit_pcs {f : Fml} {s : Sty} {n : Nat} (hs : BB f.op = some s) (hz : szF f ≤ 1000000) : ∀ p ∈ pcs s n f, pcFit p := by
 have hlv : s.first ≤ 9 ∧ s.next ≤ 9 := by
  rcases op_cases hs with h | h | h | h | h | h | h | h | h | h | h | h | h | h | h | h | h | h | h <;> rw [h] at hs <;> simp [BB, styL, List.lookup] at hs <;> subst hs <;> decide
 have h4 := szF_eq f
 have hA : ∀ l : List Fml, szL l ≤ 1000000 → ∀ sg, ∀ p ∈ argP s.next sg l, pcFit p := by
  intro l
  induction l with
  | nil => intro _ sg p hp; cases hp
  | cons a l ih =>
   intro hl sg p hp
   simp only [szL] at hl
   rcases List.mem_cons.1 hp with rfl | hp
   ·trivial
   rcases List.mem_cons.1 hp with rfl | hp
   ·exact ⟨hlv.2, by omega⟩
   ·exact ih (by omega) sg p hp
 intro p hp
 unfold pcs at hp
 rcases List.mem_append.1 hp with hp | hp
 ·rcases List.mem_append.1 hp with hp | hp
  ·rcases List.mem_append.1 hp with hp | hp
   ·unfold Cq at hp; split at hp <;> simp at hp; subst hp; trivial
   ·unfold CP at hp; split at hp <;> simp at hp; subst hp; trivial
  ·generalize f.args = l at hp h4
   cases l with
   | nil => cases hp
   | cons a l =>
    simp only [szL] at h4
    rcases List.mem_cons.1 hp with rfl | hp
    ·exact ⟨hlv.1, by omega⟩
    ·exact hA l (by omega) _ p hp
 ·unfold C2 at hp; split at hp <;> simp at hp; subst hp; trivial
theorem sub_pcs {f : Fml} {s : Sty} {n m : Nat} {a : Fml} (h : Pc.sub a m ∈ pcs s n f) : a ∈ f.args := by
 have hA : ∀ (l : List Fml) nx sg, Pc.sub a m ∈ argP nx sg l → a ∈ l := by
  intro l nx sg
  induction l with
  | nil => intro h; cases h
  | cons c l ih =>
   intro h
   rcases List.mem_cons.1 h with e | h
   ·cases e
   rcases List.mem_cons.1 h with e | h
   ·cases e; simp
   ·simp [ih h]
 unfold pcs at h
 rcases List.mem_append.1 h with h | h
 ·rcases List.mem_append.1 h with h | h
  ·rcases List.mem_append.1 h with h | h
   ·unfold Cq at h; split at h <;> simp at h
   ·unfold CP at h; split at h <;> simp at h
  ·generalize f.args = l at h ⊢
   cases l with
   | nil => cases h
   | cons c l =>
    rcases List.mem_cons.1 h with e | h
    ·cases e; simp
    ·simp [hA l _ _ h]
 ·unfold C2 at h; split at h <;> simp at h
theorem out_sum : ∀ {ps : List Pc}, (∀ p ∈ ps, (outP p).length ≤ C0 p) → (ps.flatMap outP).length ≤ CO C0 ps
 | [], _ => by simp
 | p :: ps, h => by
  have h1 := h p (by simp)
  have h2 := out_sum fun q hq => h q (List.mem_cons_of_mem p hq)
  rw [List.flatMap_cons, List.length_append, Cj]; omega
theorem prF_len : ∀ (N : Nat) (f : Fml), szF f ≤ N → okF f = true → ∀ n, (prF n f).length ≤ 44 * szF f - 22
 | 0, f, hN, _, _ => by have := szF_pos f; omega
 | N + 1, f, hN, hok, n => by
  rw [okF_eq, Bool.and_eq_true] at hok
  obtain ⟨s, hs, _⟩ := node_parts hok.1
  rw [← out_pcs hs n]
  refine Nat.le_trans (out_sum fun p hp => ?_) (pot_pcs hok.1)
  cases p with
  | txt t => exact Nat.le_refl _
  | sub a m =>
   have hm := sub_pcs hp
   have h1 := szL_mem hm
   have h2 := szF_eq f
   exact prF_len N a (by omega) (okL_mem hok.2 _ hm) m
end Go.Proofs.YtfcgdbmoncnibaaGreatDoor
namespace Go.Proofs.YtfcgdbmoncnibaaGreatDoor
open Go.RowKit
set_option linter.unusedVariables false
theorem PS.keep {C B : Nat} {v : Value} {L : List (List Value)} {ps : List Pc} {X : List Nat} {W W' : World} (h : PS C B v L ps W) (k : Keep X W W') (h1 : ∀ y, v.ownBlock = some y → y ∉ X) (h2 : ∀ b, b < C → b ∉ X) : PS C B v L ps W' :=
 ⟨A5 h.own k h1, h.rs.keep k h2, h.le⟩
theorem PS.cut {C B n cap : Nat} {a : Option Addr} {L : List (List Value)} {ps : List Pc} {c : List Value} {q : Pc} {W : World} (h : PS C B (.slice a n cap) (L ++ [c]) (ps ++ [q]) W) : PS C B (.slice a ps.length cap) L ps W := by
 have hl := h.rs.1
 simp only [List.length_append, List.length_singleton] at hl
 have h3 := h.rs.len
 have hL3 : ∀ d ∈ L, d.length = 3 := fun d hd => h3 d (by simp [hd])
 have hLl : L.flatten.length = ps.length * 3 := by rw [CG 3 L hL3]; omega
 refine ⟨⟨hLl, ?_⟩, ⟨by omega, fun i c p hc hp => ?_⟩, h.le⟩
 ·rcases h.own.2 with ⟨e, h0⟩ | ⟨g, cap', cur, e, hB, hg, g1, g2, g3, g4⟩
  ·simp at h0
  ·cases e
   refine .inr ⟨g, cap, cur, rfl, hB, hg, by simp at g1; omega, g2, g3, ?_⟩
   have e2 : cur.toList.take (ps.length * 3) = ((cur.toList.take ((ps ++ [q]).length * 3))).take (ps.length * 3) := by
    rw [List.take_take, Nat.min_eq_left (by simp; omega)]
   rw [e2, g4, List.flatten_append, List.take_append_of_le_length (by omega), List.take_of_length_le (by omega)]
 ·have hi := (List.getElem?_eq_some_iff.1 hc).1
  have hi2 := (List.getElem?_eq_some_iff.1 hp).1
  exact h.rs.2 i c p (by rw [List.getElem?_append_left hi]; exact hc) (by rw [List.getElem?_append_left hi2]; exact hp)
theorem PS.rev_form {C B : Nat} {v : Value} {L : List (List Value)} {ps : List Pc} {W : World} (h : PS C B v L ps W) (hp : 0 < ps.length) : ∃ a cap L' ps' c q, v = .slice a (ps'.length + 1) cap ∧ L = L' ++ [c] ∧ ps = ps' ++ [q] ∧ pcFits (fun b => b < C) W c q ∧ c.length = 3 ∧ oneC c ∧ ps'.length + 1 ≤ cap ∧
  ∃ g, a = some ⟨g, 0, none⟩ ∧ Cells W g (0 + ps'.length * 3) c := by
 obtain ⟨a, cap, rfl⟩ := h.form
 have hL : L.length = ps.length := h.rs.1
 obtain ⟨ps', q, rfl⟩ : ∃ ps' q, ps = ps' ++ [q] := ⟨ps.dropLast, ps.getLast (by intro e; simp [e] at hp), (List.dropLast_concat_getLast _).symm⟩
 obtain ⟨L', c, rfl⟩ : ∃ L' c, L = L' ++ [c] := ⟨L.dropLast, L.getLast (by intro e; simp [e] at hL), (List.dropLast_concat_getLast _).symm⟩
 simp only [List.length_append, List.length_singleton] at hL
 have hf : pcR.fits (fun b => b < C) W c q := h.rs.2 ps'.length c q (by rw [List.getElem?_append_right (by omega)]; simp [show ps'.length - L'.length = 0 by omega]) (by simp)
 have h3 : ∀ d ∈ L' ++ [c], d.length = 3 := h.rs.len
 obtain ⟨g, rest, rfl, hB, hb, _⟩ := own_rows h.own hp
 refine ⟨_, cap, L', ps', c, q, by simp, rfl, rfl, hf, h3 c (by simp), pcR.one hf, ?_, g, rfl, ?_⟩
 ·rcases h.own.2 with ⟨e, h0⟩ | ⟨g, cap', cur, e, hB, hg, g1, _⟩
  ·simp at h0
  ·cases e; simpa using g1
 ·exact row_cells hb h3 (by rw [List.getElem?_append_right (by omega)]; simp [show ps'.length - L'.length = 0 by omega])
theorem PS.ge {C B y : Nat} {v : Value} {L : List (List Value)} {ps : List Pc} {W : World} (h : PS C B v L ps W) (hy : v.ownBlock = some y) : B ≤ y ∧ y < W.heap.size := Bl h.own hy
structure FI (w : World) (p r : Nat) (v : Value) (t : List UInt8) (f : Fml) (x : Value × List (List Value) × List Pc × Value × List UInt8) (W : World) : Prop where
 wr : Wrote p v x.2.2.2.1 w W
 wb : WrB W p x.2.2.2.1 x.2.2.2.2
 ps : PS p w.heap.size x.1 x.2.1 x.2.2.1 W
 ne : ∀ y, x.1.ownBlock = some y → x.2.2.2.1.ownBlock ≠ some y
 sty : StyM W r
 rn : x.1.ownBlock ≠ some r ∧ x.2.2.2.1.ownBlock ≠ some r ∧ r < W.heap.size
 fit : ∀ q ∈ x.2.2.1, pcFit q
 out : x.2.2.2.2 ++ x.2.2.1.reverse.flatMap outP = t ++ prF 0 f
 ok : x.2.2.1.all pcOk = okF f
 pot : x.2.2.2.2.length + CO C0 x.2.2.1 ≤ t.length + (44 * szF f - 22)
 wt : CO pcWt x.2.2.1 ≤ 8 * szF f
theorem wt_len : ∀ ps : List Pc, ps.length ≤ CO pcWt ps
 | [] => by simp
 | .txt t :: ps => by have := wt_len ps; rw [Cj]; simp only [pcWt, List.length_cons]; omega
 | .sub f n :: ps => by have := wt_len ps; have := szF_pos f; rw [Cj]; simp only [pcWt, List.length_cons]; omega
set_option maxHeartbeats 3200000 in
theorem wformula_ok (w : World) (p b o : Nat) (v : Value) (t : List UInt8) (f : Fml) (hw : WrB w p v t) (hf : PF (fun b => b < p) w b o f) (hG : GP w) (hp : 10 ≤ p) (hz : szF f ≤ 1000000) (hl : t.length ≤ 1000000000) :
  FnP Tryz.prog 44 [pt p, .pointer (some ⟨b, o, none⟩)] w (fun _ w' => okF f = true ∧ ∃ v', WrB w' p v' (t ++ prF 0 f) ∧ Wrote p v v' w w') (fun ch w' => ch = unp ∧ okF f = false ∧ ∃ v', Wrote p v v' w w') := by
 have hpw := hw.lt
 refine Aq Tryz.func44 rfl Tryz.ntmps44 (Nat.le_of_ble_eq_true rfl) (by kernel_rfl) ?_
 repeat refine nx rfl ?_
 refine AA ?_
 refine AS (styles_ok w) rfl ?_
 rintro _ w1 ⟨r, rfl, k1, hr, hst⟩
 have hrl : r < w1.heap.size := by obtain ⟨M, hM, _⟩ := id hst; exact hM.lt
 refine AB (M_map rfl ?_)
 repeat refine nx rfl ?_
 refine AA (AK rfl (Ac (by rfl) (by rfl) ?_))
 refine AT (out := subC b o 0) rfl (by omega) (by kernel_rfl) (fun w2 n2 => ?_)
 have z1 := k1.size
 have z2 := n2.size
 have k2 : Ext w w2 := k1.trans n2.keep
 have o2 := n2.own (n := 1) (size := 3) (B := w.heap.size) rfl (by decide) z1
 refine AB (Ah rfl ?_)
 repeat refine nx rfl ?_
 have h0 : FI w p r v t f (.slice (some ⟨w1.heap.size, 0, none⟩) 1 1, [subC b o 0], [.sub f 0], v, t) w2 := by
  refine ⟨⟨k2.any, fun y hy => .inl hy⟩, hw.ext k2, ⟨by simpa using o2, RsAt.one (R := pcR) (a := Pc.sub f 0) ⟨b, o, rfl, hf.keep k2 (by simp)⟩, by omega⟩, ?_, hst.keep n2.keep (by simp), ⟨?_, ?_, by omega⟩, ?_, by simp [outP], by simp [pcOk], by simp [CO, C0], by simp [CO, pcWt]⟩
  ·intro y hy h2
   have hy : w1.heap.size = y := by simpa [Value.ownBlock] using hy
   have := (hw.ge h2).2
   omega
  ·intro e
   have e : w1.heap.size = r := by simpa [Value.ownBlock] using e
   omega
  ·intro e; have := (hw.ge e).2; omega
  ·intro q hq
   simp at hq; subst hq
   exact ⟨by omega, hz⟩
 clear o2 n2
 refine BY (α := Value × List (List Value) × List Pc × Value × List UInt8) (fun x => [(0, pt p), (4, .map (some r)), (5, x.1)]) (FI w p r v t f) (fun x => CO pcWt x.2.2.1) (.slice (some ⟨w1.heap.size, 0, none⟩) 1 1, [subC b o 0], [.sub f 0], v, t) ⟨rfl, rfl, rfl, trivial⟩ h0 ?_
 clear h0 z2 k2
 rintro ⟨tv, L, ps, v1, t1⟩ w3 f3 hI
 obtain ⟨hwr, hwb, hps, hne, hst3, ⟨hr1, hr2, hr3⟩, hfit, hout, hok, hpot, hwt⟩ := id hI
 simp only at hwr hwb hps hne hst3 hr1 hr2 hr3 hfit hout hok hpot hwt ⊢
 repeat refine nx rfl ?_
 have hlen := wt_len ps
 by_cases hp0 : ps.length = 0
 ·have e0 : ps = [] := List.length_eq_zero_iff.1 hp0
  subst e0
  obtain ⟨a, cp, rfl⟩ := hps.form
  rw [hp0]
  refine AA (Ah rfl (As rfl (W_gtrF rfl rfl (by omega) ?_)))
  repeat first | refine nx rfl ?_ | refine nf rfl ?_
  refine Az rfl ⟨by simpa using hok.symm, v1, ?_, hwr⟩
  simp at hout
  rw [← hout]
  exact hwb
 obtain ⟨a, cap, L', ps', c, q, rfl, rfl, rfl, hq, hc3, hc1, hcap, g, rfl, hcl⟩ := hps.rev_form (by omega)
 clear hp0
 rw [List.length_append, List.length_singleton] at hlen
 refine AA (Ah rfl (As rfl (W_gtrT rfl rfl (by omega) ?_)))
 repeat refine nx rfl ?_
 refine AA (Ah rfl (Ah rfl (As rfl (W_sub rfl rfl (by first | exact Al (by omega) (by omega) | exact At (by omega) (by omega) | exact Am (by omega) (by omega)) ?_))))
 refine CH (k := ps'.length) rfl rfl (by omega) (by omega) ?_
 refine AZ (L := c) rfl hc3 hcl ?_
 refine BE (cs := c) rfl hc3 (by rfl) hc1 (fun w4 n4 => ?_)
 have z4 := n4.size
 have k4 := n4.keep
 repeat refine nx rfl ?_
 refine AA (Ah rfl (Ah rfl (As rfl (W_sub rfl rfl (by first | exact Al (by omega) (by omega) | exact At (by omega) (by omega) | exact Am (by omega) (by omega)) ?_))))
 refine W_slice_h rfl rfl (by omega) (by omega) ?_
 rw [show ((((ps'.length + 1 : Nat) : Int) - 1).toNat) = ps'.length by omega]
 refine AB (Ah rfl ?_)
 repeat refine nx rfl ?_
 have b4 := n4.blk
 have hps4 := hps.cut.ext k4
 have hwb4 := hwb.ext k4
 have hwr4 := hwr.ext k4
 have hst4 := hst3.keep k4 (by simp)
 have hfq : pcFit q := hfit q (by simp)
 have hfit' : ∀ x ∈ ps', pcFit x := fun x hx => hfit x (by simp [hx])
 rw [Cb, Cj, sumP_nil] at hpot hwt
 rw [List.all_append] at hok
 rw [List.reverse_append, List.reverse_singleton, List.singleton_append, List.flatMap_cons] at hout
 cases q with
 | txt s =>
  have hq : c = txtC s := hq
  subst hq
  have h41 : w4.cell? ⟨w3.heap.size, 0 + 1, none⟩ = some (.pointer none) := b4.cell rfl
  have h40 : w4.cell? ⟨w3.heap.size, 0 + 0, none⟩ = some (AM s) := b4.cell rfl
  refine AA (AD rfl (AG rfl (Blk.cell (by assumption) (by rfl)) ?_))
  refine W_ptrNil rfl ?_
  repeat refine nx rfl ?_
  refine AA (AK rfl (AD rfl (AG rfl (Blk.cell (by assumption) (by rfl)) ?_)))
  refine AT (out := [AM s]) rfl (by omega) (by kernel_rfl) (fun w5 n5 => ?_)
  have z5 := n5.size
  have k5 := n5.keep
  have hwb5 := hwb4.ext k5
  have hS5 : Sl (fun b => b < w5.heap.size ∧ b ≠ p ∧ v1.ownBlock ≠ some b) w5 (.slice (some ⟨w4.heap.size, 0, none⟩) 1 1) [s].length ([s].map AM) := by
   refine ⟨_, _, rfl, by simp, by omega, (fun h => by cases h), .inr ⟨_, _, rfl, ⟨by omega, ?_, ?_⟩, n5.blk.cells⟩⟩
   ·have := hwb4.lt; omega
   ·intro e; have := (hwb4.ge e).2; omega
  simp only [C0] at hpot
  simp only [pcWt] at hwt
  refine AS (put_ok w5 p v1 _ t1 [s] hwb5 hS5 (by simp; omega)) rfl ?_
  rintro _ w6 ⟨v6, hwb6, hwr6⟩
  simp only [List.flatten_cons, List.flatten_nil, List.append_nil] at hwb6
  repeat refine nx rfl ?_
  have z6 := hwr6.keep.size
  have hX : ∀ y, y < w5.heap.size → y ≠ p → v1.ownBlock ≠ some y → y ∉ p :: v1.ownBlock.toList := fun y _ h1 h2 hx => by
   rcases List.mem_cons.1 hx with hx | hx
   ·exact h1 hx
   ·exact h2 (Option.mem_toList.1 hx)
  refine ⟨(_, L', ps', v6, t1 ++ s), ⟨rfl, ⟨rfl, rfl, rfl, trivial⟩, ⟨(hwr4.ext k5).trans hwr6, hwb6, (hps4.ext k5).keep hwr6.keep ?_ ?_, ?_, (hst4.keep k5 (by simp)).keep hwr6.keep ?_, ⟨hr1, ?_, ?_⟩, hfit', ?_, ?_, ?_, ?_⟩⟩, ?_⟩
  ·intro y hy
   have := hps4.ge hy
   exact hX y (by omega) (by omega) (hne y hy)
  ·intro y hy
   exact hX y (by omega) (by omega) (fun e => by have := (hwb4.ge e).1; omega)
  ·intro y hy h2
   rcases hwr6.blk y h2 with e | e
   ·exact hne y hy e
   ·have := (hps4.ge hy).2; omega
  ·exact hX r (by omega) (by omega) hr2
  ·intro e
   rcases hwr6.blk r e with e | e
   ·exact hr2 e
   ·omega
  ·omega
  ·simp only; rw [List.append_assoc]; exact hout
  ·simp only; rw [← hok]; simp [pcOk]
  ·simp only; rw [List.length_append]; omega
  ·simp only; omega
  ·simp only; rw [Cb, Cj, sumP_nil]; simp only [pcWt]; omega
 | sub f' n =>
  obtain ⟨b', o', hq, hpf⟩ := hq
  subst hq
  have h41 : w4.cell? ⟨w3.heap.size, 0 + 1, none⟩ = some (.pointer (some ⟨b', o', none⟩)) := b4.cell rfl
  have h42 : w4.cell? ⟨w3.heap.size, 0 + 2, none⟩ = some (.int .i64 (n : Int)) := b4.cell rfl
  refine AA (AD rfl (AG rfl (Blk.cell (by assumption) (by rfl)) ?_))
  refine W_ptrNil rfl ?_
  repeat first | refine nx rfl ?_ | refine nf rfl ?_
  have hpf4 := hpf.keep k4 (by simp)
  obtain ⟨_, a5, c5, L5, hcl5, _, _⟩ := hpf4.form
  have h50 : w4.cell? ⟨b', o' + 0, none⟩ = some (.int .i64 f'.op) := hcl5 0 _ rfl
  obtain ⟨M, hM, hlook⟩ := id hst4
  (refine AA (M_map rfl (AD rfl (AG rfl (Blk.cell (by assumption) (by rfl)) ?_))) <;> refine AF rfl (AD rfl (AG rfl (by assumption) ?_)))
  refine W_lookup2V rfl rfl hM ?_
  rw [hlook]
  clear hlook hM M
  simp only [C0, pcWt, outP] at hpot hwt hout
  rw [List.all_cons, List.all_nil, Bool.and_true] at hok
  simp only [pcOk] at hok
  cases hs : BB f'.op with
  | none =>
   have hbad : okF f' = false := by rw [okF_eq]; unfold Bq; rw [hs]; rfl
   have hbad2 : okF f = false := by rw [← hok, hbad, Bool.and_false]
   refine Bn rfl (Af rfl rfl (Af rfl rfl ?_))
   refine BE (cs := sty0) rfl rfl (by rfl) (Bj rfl) (fun w5 n5 => ?_)
   refine AB (AC rfl ?_)
   repeat refine nx rfl ?_
   refine AA (AC rfl ?_)
   refine AX (Bt w5 false) rfl ?_ ?_
   ·rintro v w6 ⟨_, hb, _⟩; cases hb
   rintro ch w6 ⟨rfl, _, rfl⟩
   repeat refine nx rfl ?_
   exact AV ⟨rfl, hbad2, v1, hwr4.ext n5.keep⟩
  | some s =>
   refine Bn rfl (Af rfl rfl (Af rfl rfl ?_))
   refine BE (cs := CB s) rfl rfl (by rfl) (styC_one s) (fun w5 n5 => ?_)
   refine AB (AC rfl ?_)
   repeat refine nx rfl ?_
   have z5 := n5.size
   have k5 := n5.keep
   refine AA (AC rfl ?_)
   refine AX (Bt w5 true) rfl ?_ ?_
   rotate_left
   ·rintro ch w6 ⟨_, hb, _⟩; cases hb
   rintro _ w6 ⟨rfl, _, rfl⟩
   repeat refine nx rfl ?_
   have b6 := n5.blk
   have i1 := k5.cell h41 (by simp)
   have i2 := k5.cell h42 (by simp)
   have hGw : GP w6 := hG.keep (hwr4.ext k5).keep (by
    intro x hx
    rcases List.mem_cons.1 hx with rfl | hx
    ·exact hp
    ·have := (hw.ge (Option.mem_toList.1 hx)).1; omega)
   refine AA (AW (L := CB s) rfl b6 rfl ?_)
   (refine AD rfl (AG rfl (by assumption) ?_) <;> refine AD rfl (AG rfl (by assumption) ?_))
   have hC6 : p ≤ w6.heap.size := by have := hwb4.lt; omega
   have hf6 := hpf4.keep k5 (by simp)
   have hal : f'.args.length ≤ 1000000 := by
    have := szL_len f'.args
    have := szF_eq f'
    have := hfq.2
    omega
   refine AX (pieces_ok w6 p hC6 s b' o' n f' hf6 hs hfq.1 hal hGw) rfl ?_ ?_
   rotate_left
   ·rintro ch w7 ⟨rfl, k7, hb7⟩
    repeat refine nx rfl ?_
    refine AV ⟨rfl, ?_, v1, (hwr4.ext k5).ext k7⟩
    rw [← hok, okF_eq, hb7]; simp
   rintro mv w7 ⟨k7, hno, Lm, Bm, hBm, hpm⟩
   refine AB (Ax ?_)
   repeat refine nx rfl ?_
   refine AA (Ax ?_)
   refine AS (reverse_ok w7 p Bm mv Lm _ hpm) rfl ?_
   rintro _ w8 ⟨hpr, k8⟩
   repeat refine nx rfl ?_
   refine AA (Ah rfl (Ax ?_))
   have z7 := k7.size
   have z8 := k8.size
   have hmge : ∀ y, mv.ownBlock = some y → w6.heap.size ≤ y := fun y hy => by have := (hpm.ge hy).1; omega
   have hk8 : ∀ y, y < w6.heap.size → y ∉ mv.ownBlock.toList := fun y hy hx => by have := hmge y (Option.mem_toList.1 hx); omega
   have k68 : Ext w6 w8 := k7.keep k8 (fun y hy => hmge y (Option.mem_toList.1 hy))
   have hps8 := (hps4.ext k5).ext k68
   have hwb8 := (hwb4.ext k5).ext k68
   have hwr8 := (hwr4.ext k5).ext k68
   have hst8 := (hst4.keep k5 (by simp)).keep k68 (by simp)
   have hlp := wt_len ps'
   have hwp := wt_pcs (f := f') s n
   have hlm := wt_len (pcs s n f').reverse
   rw [sumP_rev] at hlm
   simp only [pcWt] at hwp
   refine CU (ok := BH) (v := .slice (some ⟨g, 0, none⟩) ps'.length cap) rfl rfl hps8.own (BF hpr.own fun _ _ => trivial) (by omega) rfl hpr.rs.flat hpr.rs.oneC (by omega) (by omega) (by have := hwr8.keep.size; omega) (fun v9 w9 a9 => ?_)
   have z9 := a9.keep.size
   have hps9 : PS p w.heap.size v9 (L' ++ Lm.reverse) (ps' ++ (pcs s n f').reverse) w9 := hps8.app a9 hpr.rs
   refine AB (Ax ?_)
   repeat refine nx rfl ?_
   have hgX : ∀ y, (Value.slice (some ⟨g, 0, none⟩) ps'.length cap).ownBlock = some y → y = g := fun y hy => by simpa [Value.ownBlock] using hy.symm
   have hg1 : w.heap.size ≤ g ∧ g < w4.heap.size := hps4.ge rfl
   have hgk : Keep [g] w8 w9 := a9.keep.mono (fun x hx => by simpa using hgX x (Option.mem_toList.1 hx))
   refine ⟨(v9, L' ++ Lm.reverse, ps' ++ (pcs s n f').reverse, v1, t1), ⟨rfl, ⟨rfl, rfl, rfl, trivial⟩, ⟨⟨hwr8.keep.trans hgk ?_, hwr8.blk⟩, hwb8.keep hgk ?_ ?_, hps9, ?_, hst8.keep hgk ?_, ⟨?_, hr2, ?_⟩, ?_, ?_, ?_, ?_, ?_⟩⟩, ?_⟩
   ·intro x hx hlt
    simp at hx; omega
   ·simp; omega
   ·intro y hy hx
    simp at hx; subst hx
    exact hne y rfl hy
   ·intro y hy h2
    rcases a9.blk with e | e
    ·rw [e] at hy; exact hne y hy h2
    ·rw [e] at hy
     have hy : w8.heap.size = y := by simpa using hy
     have := (hwb8.ge h2).2; omega
   ·simp
    intro e
    exact hr1 (by simp [Value.ownBlock, e])
   ·intro e2
    rcases a9.blk with e | e
    ·rw [e] at e2; exact hr1 e2
    ·rw [e] at e2
     have e2 : w8.heap.size = r := by simpa using e2
     omega
   ·omega
   ·intro x hx
    rcases List.mem_append.1 hx with hx | hx
    ·exact hfit' x hx
    ·exact fit_pcs hs hfq.2 x (List.mem_reverse.1 hx)
   ·simp only
    rw [List.reverse_append, List.reverse_reverse, List.flatMap_append, out_pcs hs]
    exact hout
   ·simp only
    rw [List.all_append, List.all_reverse, ok_pcs, ← hok, okF_eq, hno, Bool.true_and]
   ·simp only
    rw [Cb, sumP_rev]
    have := pot_pcs (s := s) (n := n) hno
    simp only [C0] at this
    omega
   ·simp only
    rw [Cb, sumP_rev]; omega
   ·simp only
    rw [Cb, sumP_rev, Cb, Cj, sumP_nil]
    simp only [pcWt]
    omega
end Go.Proofs.YtfcgdbmoncnibaaGreatDoor
namespace Go.Proofs.YtfcgdbmoncnibaaGreatDoor
open Go.RowKit
set_option linter.unusedVariables false
def PA {α : Type} (R : Rp α) (ok : Nat → Prop) (w : World) (b o : Nat) (a : α) : Prop := ok b ∧ ∃ d : List Value, Cells w b o d ∧ R.fits ok w d a
theorem PA.keep {α : Type} {R : Rp α} {ok : Nat → Prop} {X : List Nat} {w w' : World} {b o : Nat} {a : α} (h : PA R ok w b o a) (k : Keep X w w') (hX : ∀ b, ok b → b ∉ X) : PA R ok w' b o a := by
 obtain ⟨hb, d, hc, hf⟩ := h
 exact ⟨hb, d, hc.keep k (hX b hb), R.keep hf k hX⟩
theorem PA.mono {α : Type} {R : Rp α} {ok ok' : Nat → Prop} {w : World} {b o : Nat} {a : α} (h : PA R ok w b o a) (hk : ∀ b, ok b → ok' b) : PA R ok' w b o a := by
 obtain ⟨hb, d, hc, hf⟩ := h
 exact ⟨hk b hb, d, hc, R.mono hf hk⟩
theorem Wrote.old {p : Nat} {v v' : Value} {w w' : World} {t : List UInt8} (_h : Wrote p v v' w w') (hw : WrB w p v t) : ∀ b, b < p → b ∉ p :: v.ownBlock.toList := fun b hb hx => by
 rcases List.mem_cons.1 hx with e | e
 ·omega
 ·have := (hw.ge (Option.mem_toList.1 e)).1; omega
theorem Wrote.gp {p : Nat} {v v' : Value} {w w' : World} {t : List UInt8} (h : Wrote p v v' w w') (hw : WrB w p v t) (hG : GP w) (hp : 10 ≤ p) : GP w' := hG.keep h.keep (by
 intro x hx
 rcases List.mem_cons.1 hx with rfl | hx
 ·exact hp
 ·have := (hw.ge (Option.mem_toList.1 hx)).1; omega)
theorem PA.wrote {α : Type} {R : Rp α} {w w' : World} {b o p : Nat} {a : α} {v v' : Value} {t : List UInt8} (h : PA R (fun b => b < p) w b o a) (k : Wrote p v v' w w') (hw : WrB w p v t) : PA R (fun b => b < p) w' b o a := h.keep k.keep (k.old hw)
theorem CE {w0 w : World} {p : Nat} {v : Value} {t : List UInt8} {parts : List (List UInt8)} (h : WrB w0 p v t) (n : New w0 w 9 (parts.map AM)) (hn : parts.length ≤ 16) (hl : t.length + parts.flatten.length ≤ 140737488355328) :
  Fn Tryz.prog 75 [pt p, .slice (some ⟨w0.heap.size, 0, none⟩) parts.length parts.length] w fun _ w' => ∃ v', WrB w' p v' (t ++ parts.flatten) ∧ Wrote p v v' w0 w' := by
 have z := n.size
 refine Fn.mono (put_ok w p v _ t parts (h.ext n.keep) ⟨_, _, rfl, Nat.le_refl _, by omega, (fun h => by cases h), .inr ⟨_, _, rfl, ⟨by omega, ?_, ?_⟩, n.blk.cells⟩⟩ hl) ?_
 ·have := h.lt; omega
 ·intro e; have := (h.ge e).2; omega
 ·rintro _ w' ⟨v', h1, h2⟩
  exact ⟨v', h1, Wrote.trans ⟨n.keep.any, fun y hy => .inl hy⟩ h2⟩
def reqT (r : Rqm) : List UInt8 := (if r.kind = 1 then [97, 115, 115, 117, 109, 101, 32] else [103, 117, 97, 114, 97, 110, 116, 101, 101, 32]) ++ (r.name ++ [58, 32]) ++ prF 0 r.formula
def okR (r : Rqm) : Bool := (decide (r.kind = 1) || decide (r.kind = 2)) && BS r.name && okF r.formula
def WAns (p : Nat) (v : Value) (t s : List UInt8) (ok : Bool) (w w' : World) : Prop := ok = true ∧ ∃ v', WrB w' p v' (t ++ s) ∧ Wrote p v v' w w'
def WPan (p : Nat) (v : Value) (ok : Bool) (w : World) (ch : List PanicEntry) (w' : World) : Prop := ch = unp ∧ ok = false ∧ ∃ v', Wrote p v v' w w'
set_option maxHeartbeats 1600000 in
theorem wreq_ok (w : World) (p b o : Nat) (v : Value) (t : List UInt8) (r : Rqm) (hw : WrB w p v t) (hf : PA reqR (fun b => b < p) w b o r) (hG : GP w) (hp : 10 ≤ p) (hz : szF r.formula ≤ 1000000) (hl : t.length ≤ 999999000) :
  FnP Tryz.prog 84 [pt p, .pointer (some ⟨b, o, none⟩)] w (fun _ w' => WAns p v t (reqT r) (okR r) w w') (WPan p v (okR r) w) := by
 obtain ⟨hb, d, hcl, d5, rfl, hd5, hfa⟩ := id hf
 have h2 : w.cell? ⟨b, o + 2, none⟩ = some (.int .i64 r.kind) := hcl 2 _ rfl
 refine Aq Tryz.func84 rfl Tryz.ntmps84 (Nat.le_of_ble_eq_true rfl) (by kernel_rfl) ?_
 repeat refine nx rfl ?_
 (refine AA (AK rfl (AF rfl (AD rfl (AG rfl (by assumption) ?_)))) <;> refine AI ?_)
 repeat' first | refine AI ?_ | refine Q_then ?_ | refine C_seq ?_
 refine CV (α := Value) (fun _ => [(0, pt p), (1, .pointer (some ⟨b, o, none⟩))]) (fun v1 W => (r.kind = 1 ∨ r.kind = 2) ∧ WrB W p v1 (t ++ (if r.kind = 1 then [97, 115, 115, 117, 109, 101, 32] else [103, 117, 97, 114, 97, 110, 116, 101, 101, 32])) ∧ Wrote p v v1 w W) ?_ ?_
 ·repeat refine nx rfl ?_
  by_cases h1 : r.kind = 1
  ·refine AA (Av rfl rfl (by omega) (AB (AC rfl ?_)))
   repeat refine nx rfl ?_
   refine AA (AK rfl ?_)
   refine AT (out := [AM [97, 115, 115, 117, 109, 101, 32]]) rfl (by omega) (by kernel_rfl) (fun w1 n1 => ?_)
   refine AS (CE (parts := [[97, 115, 115, 117, 109, 101, 32]]) hw n1 (by simp) (by simp; omega)) rfl ?_
   rintro _ w2 ⟨v2, hw2, k2⟩
   repeat refine nx rfl ?_
   refine Ar v2 ⟨rfl, rfl, trivial⟩ ⟨.inl h1, ?_, k2⟩
   rw [if_pos h1]; exact hw2
  ·refine AA (AL rfl rfl (by omega) (AB (AC rfl ?_)))
   repeat first | refine nx rfl ?_ | refine nf rfl ?_
   by_cases h22 : r.kind = 2
   ·refine AA (Av rfl rfl (by omega) (AB (AC rfl ?_)))
    repeat refine nx rfl ?_
    refine AA (AK rfl ?_)
    refine AT (out := [AM [103, 117, 97, 114, 97, 110, 116, 101, 101, 32]]) rfl (by omega) (by kernel_rfl) (fun w1 n1 => ?_)
    refine AS (CE (parts := [[103, 117, 97, 114, 97, 110, 116, 101, 101, 32]]) hw n1 (by simp) (by simp; omega)) rfl ?_
    rintro _ w2 ⟨v2, hw2, k2⟩
    repeat refine nx rfl ?_
    refine Ar v2 ⟨rfl, rfl, trivial⟩ ⟨.inr h22, ?_, k2⟩
    rw [if_neg h1]; exact hw2
   ·refine AA (AL rfl rfl (by omega) (AB (AC rfl ?_)))
    repeat first | refine nx rfl ?_ | refine nf rfl ?_
    refine AA ?_
    refine AX (Bt w false) rfl ?_ ?_
    ·rintro v w6 ⟨_, hb, _⟩; cases hb
    rintro ch w6 ⟨rfl, _, rfl⟩
    repeat refine nx rfl ?_
    refine AV ⟨rfl, ?_, v, Wrote.refl _ _ _⟩
    simp [okR, h1, h22]
 rintro v1 w1 f1 ⟨hk, hw1, k1⟩
 have hkd : (decide (r.kind = 1) || decide (r.kind = 2)) = true := by simpa using hk
 have hf1 := hf.wrote k1 hw
 obtain ⟨_, d', hcl', d6, rfl, hd6, hfa'⟩ := id hf1
 have h11 : w1.cell? ⟨b, o + 1, none⟩ = some (AM r.name) := hcl' 1 _ rfl
 have hG1 := k1.gp hw hG hp
 repeat refine nx rfl ?_
 refine AA (AK rfl (AK rfl (AF rfl (AD rfl (AG rfl (by assumption) ?_)))))
 refine AX (wname_ok w1 r.name hG1.gk) rfl ?_ ?_
 rotate_left
 ·rintro ch w2 ⟨rfl, hb, rfl⟩
  repeat refine nx rfl ?_
  exact AV ⟨rfl, by simp [okR, hb], v1, k1⟩
 rintro _ w2 ⟨rfl, hnm, rfl⟩
 have hnl := (Ba hnm).2.1
 refine AT (out := [AM r.name, AM [58, 32]]) rfl (by omega) (by kernel_rfl) (fun w3 n3 => ?_)
 refine AS (CE (parts := [r.name, [58, 32]]) hw1 n3 (by simp) (by split <;> simp <;> omega)) rfl ?_
 rintro _ w4 ⟨v4, hw4, k4⟩
 repeat refine nx rfl ?_
 have k14 := k1.trans k4
 have hf4 := hf1.wrote k4 hw1
 obtain ⟨_, d', hcl4, d7, rfl, hd7, hfa4⟩ := id hf4
 have hpf : PF (fun b => b < p) w4 b (o + 3) r.formula := ⟨hb, d7, hd7, fun i u hu => by
  have := hcl4 (3 + i) u (by rw [List.getElem?_append_right (by simp)]; simpa using hu)
  rw [← Nat.add_assoc] at this
  exact this, hfa4⟩
 refine AA (AK rfl (AK rfl (AF rfl (AD rfl ?_))))
 refine AX (wformula_ok w4 p b (o + 3) v4 _ r.formula hw4 hpf (k4.gp hw1 hG1 hp) hp hz (by split <;> simp <;> omega)) rfl ?_ ?_
 rotate_left
 ·rintro ch w5 ⟨rfl, hb5, v5, k5⟩
  repeat refine nx rfl ?_
  exact AV ⟨rfl, by simp [okR, hb5], v5, k14.trans k5⟩
 rintro _ w5 ⟨hok5, v5, hw5, k5⟩
 repeat refine nx rfl ?_
 refine Az rfl ⟨by simp only [okR, hkd, hnm, hok5, Bool.and_self], v5, ?_, k14.trans k5⟩
 have e : t ++ reqT r = t ++ (if r.kind = 1 then [97, 115, 115, 117, 109, 101, 32] else [103, 117, 97, 114, 97, 110, 116, 101, 101, 32]) ++ [r.name, [58, 32]].flatten ++ prF 0 r.formula := by simp [reqT]
 rw [e]
 exact hw5
end Go.Proofs.YtfcgdbmoncnibaaGreatDoor
namespace Go.Proofs.YtfcgdbmoncnibaaGreatDoor
open Go.RowKit
set_option linter.unusedVariables false
def sgnT (x : Sgn) : List UInt8 := (if x.input then [105, 110, 112, 117, 116, 32] else [111, 117, 116, 112, 117, 116, 32]) ++ x.name ++ (if x.size = 2 then [] else [58, 32] ++ DJ x.size) ++ [59, 10]
def okS (x : Sgn) : Bool := BS x.name && numB x.size
set_option maxHeartbeats 1600000 in
theorem wsig_ok (w : World) (p : Nat) (v : Value) (t : List UInt8) (x : Sgn) (hw : WrB w p v t) (hG : GP w) (hp : 10 ≤ p) (hl : t.length ≤ 999999000) :
  FnP Tryz.prog 82 [pt p, .agg (Ce x).toArray] w (fun _ w' => WAns p v t (sgnT x) (okS x) w w') (WPan p v (okS x) w) := by
 refine Aq Tryz.func82 rfl Tryz.ntmps82 (Nat.le_of_ble_eq_true rfl) (by kernel_rfl) ?_
 repeat refine nx rfl ?_
 (refine AA ?_; refine Bs (L := Ce x) rfl (fun w1 n1 => ?_))
 have k1 := n1.keep
 have b1 := n1.blk
 have hw1 := hw.ext k1
 have hwr1 : Wrote p v v w w1 := ⟨k1.any, fun y hy => .inl hy⟩
 have hG1 := hG.ext k1
 repeat refine nx rfl ?_
 refine AA (AB (AY rfl ?_))
 repeat refine nx rfl ?_
 have h1 : w1.cell? ⟨w.heap.size, 0 + 1, none⟩ = some (.bool x.input) := b1.cell rfl
 have h0 : w1.cell? ⟨w.heap.size, 0 + 0, none⟩ = some (AM x.name) := b1.cell rfl
 (refine AA (AD rfl (AG rfl (Blk.cell (by assumption) (by rfl)) ?_)) <;> refine AI ?_)
 repeat' first | refine AI ?_ | refine Q_then ?_ | refine C_seq ?_
 refine CV (α := Unit) (fun _ => [(0, pt p), (3, pt w.heap.size), (4, AM (if x.input then [105, 110, 112, 117, 116, 32] else [111, 117, 116, 112, 117, 116, 32]))]) (fun _ W => w1 = W) ?_ ?_
 ·cases hi : x.input with
  | true =>
   repeat refine nx rfl ?_
   refine AA (AB (AY rfl ?_))
   repeat refine nx rfl ?_
   exact Ar () ⟨rfl, rfl, rfl, trivial⟩ rfl
  | false =>
   repeat first | refine nx rfl ?_ | refine nf rfl ?_
   exact Ar () ⟨rfl, rfl, rfl, trivial⟩ rfl
 rintro _ _ f1 rfl
 generalize hkd : (if x.input then [105, 110, 112, 117, 116, 32] else [111, 117, 116, 112, 117, 116, 32] : List UInt8) = kd
 have hkl : kd.length ≤ 7 := by rw [← hkd]; split <;> simp
 repeat refine nx rfl ?_
 refine AA (AK rfl (AY rfl (AD rfl (AG rfl (Blk.cell (by assumption) (by rfl)) ?_))))
 refine AX (wname_ok w1 x.name hG1.gk) rfl ?_ ?_
 rotate_left
 ·rintro ch w2 ⟨rfl, hb, rfl⟩
  repeat refine nx rfl ?_
  exact AV ⟨rfl, by simp [okS, hb], v, hwr1⟩
 rintro _ w2 ⟨rfl, hnm, rfl⟩
 have hnl := (Ba hnm).2.1
 refine AT (out := [AM kd, AM x.name]) rfl (by omega) (by kernel_rfl) (fun w3 n3 => ?_)
 refine AS (CE (parts := [kd, x.name]) hw1 n3 (by simp) (by simp; omega)) rfl ?_
 rintro _ w4 ⟨v4, hw4, k4⟩
 repeat refine nx rfl ?_
 have k14 := hwr1.trans k4
 have hG4 := k4.gp hw1 hG1 hp
 have hpl := hw1.lt
 have hx4 : w.heap.size ∉ p :: v.ownBlock.toList := fun hx => by
  rcases List.mem_cons.1 hx with e | e
  ·have := hw.lt; omega
  ·have := (hw.ge (Option.mem_toList.1 e)).2; omega
 have b4 := b1.keep k4.keep hx4
 have h2 : w4.cell? ⟨w.heap.size, 0 + 2, none⟩ = some (.int .i64 x.size) := b4.cell rfl
 refine AA (AD rfl (AG rfl (Blk.cell (by assumption) (by rfl)) ?_))
 refine AX (wnumber_ok w4 x.size hG4) rfl ?_ ?_
 rotate_left
 ·rintro ch w5 ⟨rfl, hb, rfl⟩
  repeat refine nx rfl ?_
  exact AV ⟨rfl, by simp [okS, hb], v4, k14⟩
 rintro _ w5 ⟨rfl, hnb, k5⟩
 have hnb2 := hnb
 simp only [numB, Bool.and_eq_true, decide_eq_true_eq] at hnb2
 have hnn := numT_len (n := x.size) (by omega)
 have h25 := k5.cell h2 (by simp)
 have hw5 := hw4.ext k5
 have k15 := k14.ext k5
 refine AB (AY rfl ?_)
 repeat refine nx rfl ?_
 have hmid : ∀ (fr : Fr) (Q' : Ch) (ds : DS) (v6 : Value) (w6 : World), True := fun _ _ _ _ _ => trivial
 clear hmid
 by_cases hs2 : x.size = 2
 ·(refine AA (AD rfl (AG rfl (by assumption) ?_)) <;> refine W_neqF rfl rfl (by omega) ?_)
  repeat first | refine nx rfl ?_ | refine nf rfl ?_
  refine AA (AK rfl ?_)
  refine AT (out := [AM [59, 10]]) rfl (by omega) (by kernel_rfl) (fun w6 n6 => ?_)
  refine AS (CE (parts := [[59, 10]]) hw5 n6 (by simp) (by simp; omega)) rfl ?_
  rintro _ w7 ⟨v7, hw7, k7⟩
  repeat refine nx rfl ?_
  refine Az rfl ⟨by simp only [okS, hnm, hnb, Bool.and_self], v7, ?_, k15.trans k7⟩
  have e : t ++ sgnT x = t ++ [kd, x.name].flatten ++ [[59, 10]].flatten := by simp [sgnT, hkd, hs2]
  rw [e]
  exact hw7
 ·(refine AA (AD rfl (AG rfl (by assumption) ?_)) <;> refine W_neqT rfl rfl (by omega) ?_)
  repeat refine nx rfl ?_
  refine AA (AK rfl (AY rfl ?_))
  refine AT (out := [AM [58, 32], AM (DJ x.size)]) rfl (by omega) (by kernel_rfl) (fun w6 n6 => ?_)
  refine AS (CE (parts := [[58, 32], DJ x.size]) hw5 n6 (by simp) (by simp; omega)) rfl ?_
  rintro _ w7 ⟨v7, hw7, k7⟩
  repeat refine nx rfl ?_
  refine AA (AK rfl ?_)
  refine AT (out := [AM [59, 10]]) rfl (by omega) (by kernel_rfl) (fun w8 n8 => ?_)
  refine AS (CE (parts := [[59, 10]]) hw7 n8 (by simp) (by simp; omega)) rfl ?_
  rintro _ w9 ⟨v9, hw9, k9⟩
  repeat refine nx rfl ?_
  refine Az rfl ⟨by simp only [okS, hnm, hnb, Bool.and_self], v9, ?_, (k15.trans k7).trans k9⟩
  have e : t ++ sgnT x = t ++ [kd, x.name].flatten ++ [[58, 32], DJ x.size].flatten ++ [[59, 10]].flatten := by simp [sgnT, hkd, hs2]
  rw [e]
  exact hw9
def rqI (l : List Rqm) (i : Nat) : List UInt8 := match l[i]? with
 | none => []
 | some r => (if i = 0 ∨ (l[i - 1]?).map (·.part) ≠ some r.part then [112, 97, 114, 116, 32] ++ (r.part ++ [32, 123, 10]) else []) ++ ([32, 32] ++ (reqT r ++ ([59, 10] ++ (if i + 1 = l.length ∨ (l[i + 1]?).map (·.part) ≠ some r.part then [125, 10] else []))))
def okRq (r : Rqm) : Bool := BS r.part && okR r
def rqsT (l : List Rqm) : List UInt8 := (List.range l.length).flatMap (rqI l)
def spcT (s : Spc) : List UInt8 := s.sigs.flatMap sgnT ++ rqsT s.reqs
def okSpc (s : Spc) : Bool := s.sigs.all okS && s.reqs.all okRq
def szR (l : List Rqm) : Nat := (l.map fun r => szF r.formula + 4).sum
def szS (s : Spc) : Nat := s.sigs.length + szR s.reqs
theorem sgnT_len {x : Sgn} (h : okS x = true) : (sgnT x).length ≤ 44 := by
 simp only [okS, numB, Bool.and_eq_true, decide_eq_true_eq] at h
 have h1 := (Ba h.1).2.1
 have h2 := numT_len (n := x.size) (by omega)
 unfold sgnT
 simp only [List.length_append]
 have h3 : (if x.input then [105, 110, 112, 117, 116, 32] else [111, 117, 116, 112, 117, 116, 32] : List UInt8).length ≤ 7 := by split <;> simp
 have h4 : (if x.size = 2 then [] else [58, 32] ++ DJ x.size : List UInt8).length ≤ 6 := by split <;> simp; omega
 have h5 : ([59, 10] : List UInt8).length = 2 := rfl
 omega
theorem reqT_len {r : Rqm} (h : okR r = true) : (reqT r).length ≤ 44 * szF r.formula + 20 := by
 simp only [okR, Bool.and_eq_true] at h
 have h1 := (Ba h.1.2).2.1
 have h2 := prF_len _ r.formula (Nat.le_refl _) h.2 0
 have h0 := szF_pos r.formula
 unfold reqT
 simp only [List.length_append]
 have h3 : (if r.kind = 1 then [97, 115, 115, 117, 109, 101, 32] else [103, 117, 97, 114, 97, 110, 116, 101, 101, 32] : List UInt8).length ≤ 10 := by split <;> simp
 have h5 : ([58, 32] : List UInt8).length = 2 := rfl
 omega
theorem rqI_len {l : List Rqm} {i : Nat} {r : Rqm} (hr : l[i]? = some r) (h : okRq r = true) : (rqI l i).length ≤ 44 * (szF r.formula + 4) := by
 simp only [okRq, Bool.and_eq_true] at h
 have h1 := (Ba h.1).2.1
 have h2 := reqT_len h.2
 unfold rqI
 rw [hr]
 simp only [List.length_append]
 have h3 : (if i = 0 ∨ (l[i - 1]?).map (·.part) ≠ some r.part then [112, 97, 114, 116, 32] ++ (r.part ++ [32, 123, 10]) else [] : List UInt8).length ≤ 20 := by split <;> simp; omega
 have h4 : (if i + 1 = l.length ∨ (l[i + 1]?).map (·.part) ≠ some r.part then [125, 10] else [] : List UInt8).length ≤ 2 := by split <;> simp
 have h5 : ([32, 32] : List UInt8).length = 2 := rfl
 have h6 : ([59, 10] : List UInt8).length = 2 := rfl
 omega
theorem szR_take {l : List Rqm} {i : Nat} {r : Rqm} (hr : l[i]? = some r) : szR (l.take (i + 1)) = szR (l.take i) + (szF r.formula + 4) := by
 rw [List.take_add_one, hr]; simp [szR]
theorem szR_le (l : List Rqm) (i : Nat) : szR (l.take i) ≤ szR l := by
 have : szR l = szR (l.take i) + szR (l.drop i) := by
  unfold szR
  rw [← List.sum_append, ← List.map_append, List.take_append_drop]
 omega
theorem szR_len : ∀ l : List Rqm, l.length ≤ szR l
 | [] => by simp
 | r :: l => by have := szR_len l; simp only [szR, List.map_cons, List.sum_cons, List.length_cons] at this ⊢; omega
theorem rqs_len (l : List Rqm) : ∀ k, k ≤ l.length → (l.take k).all okRq = true → ((List.range k).flatMap (rqI l)).length ≤ 44 * szR (l.take k)
 | 0, _, _ => by simp
 | k + 1, hk, h => by
  obtain ⟨r, hr⟩ : ∃ r, l[k]? = some r := ⟨_, List.getElem?_eq_getElem (by omega)⟩
  have e : l.take (k + 1) = l.take k ++ [r] := by rw [List.take_add_one, hr]; rfl
  rw [e, List.all_append, Bool.and_eq_true] at h
  have ih := rqs_len l k (by omega) h.1
  have h2 := rqI_len hr (by simpa using h.2)
  rw [szR_take hr, List.range_succ, List.flatMap_append, List.length_append]
  simp only [List.flatMap_cons, List.flatMap_nil, List.append_nil]
  omega
end Go.Proofs.YtfcgdbmoncnibaaGreatDoor
namespace Go.Proofs.YtfcgdbmoncnibaaGreatDoor
open Go.RowKit
set_option linter.unusedVariables false
theorem sigs_len : ∀ l : List Sgn, l.all okS = true → (l.flatMap sgnT).length ≤ 44 * l.length
 | [], _ => by simp
 | x :: l, h => by
  rw [List.all_cons, Bool.and_eq_true] at h
  have h1 := sgnT_len h.1
  have h2 := sigs_len l h.2
  rw [List.flatMap_cons, List.length_append, List.length_cons]; omega
structure SpV (w : World) (p b o : Nat) (s : Spc) (sa ra : Option Addr) (sc rc : Nat) (LS LR : List (List Value)) : Prop where
 lt : b < p
 c0 : w.cell? ⟨b, o + 0, none⟩ = some (.slice sa s.sigs.length sc)
 c1 : w.cell? ⟨b, o + 1, none⟩ = some (.slice ra s.reqs.length rc)
 ss : Sl (fun b => b < p) w (.slice sa s.sigs.length sc) s.sigs.length LS.flatten
 sr : RsAt sgnR (fun b => b < p) w LS s.sigs
 rs : Sl (fun b => b < p) w (.slice ra s.reqs.length rc) s.reqs.length LR.flatten
 rr : RsAt reqR (fun b => b < p) w LR s.reqs
theorem SpV.keep {X : List Nat} {w w' : World} {p b o : Nat} {s : Spc} {sa ra : Option Addr} {sc rc : Nat} {LS LR : List (List Value)} (h : SpV w p b o s sa ra sc rc LS LR) (k : Keep X w w') (hX : ∀ b, b < p → b ∉ X) : SpV w' p b o s sa ra sc rc LS LR :=
 ⟨h.lt, k.cell h.c0 (hX b h.lt), k.cell h.c1 (hX b h.lt), h.ss.keep k hX, h.sr.keep k hX, h.rs.keep k hX, h.rr.keep k hX⟩
theorem SpV.ext {w w' : World} {p b o : Nat} {s : Spc} {sa ra : Option Addr} {sc rc : Nat} {LS LR : List (List Value)} (h : SpV w p b o s sa ra sc rc LS LR) (k : Ext w w') : SpV w' p b o s sa ra sc rc LS LR := h.keep k fun _ _ => by simp
theorem SpV.wrote {w w' : World} {p b o : Nat} {s : Spc} {sa ra : Option Addr} {sc rc : Nat} {LS LR : List (List Value)} {v v' : Value} {t : List UInt8} (h : SpV w p b o s sa ra sc rc LS LR) (k : Wrote p v v' w w') (hw : WrB w p v t) : SpV w' p b o s sa ra sc rc LS LR := h.keep k.keep (k.old hw)
theorem Sl.row {α : Type} {R : Rp α} {ok : Nat → Prop} {w : World} {a : Option Addr} {n c k : Nat} {l : List α} {L : List (List Value)} {d : List Value} (hS : Sl ok w (.slice a n c) n L.flatten) (hR : RsAt R ok w L l) (hd : L[k]? = some d) (hk : k < n) : ∃ b o, a = some ⟨b, o, none⟩ ∧ ok b ∧ Cells w b (o + k * R.size) d := by
 obtain ⟨a', c', e, _, _, _, h⟩ := hS
 cases e
 rcases h with h0 | ⟨b, o, rfl, hb, hc⟩
 ·omega
 ·refine ⟨b, o, rfl, hb, fun j u hu => ?_⟩
  have := hc (k * R.size + j) u (DD R.size L k j d u hR.len hd hu)
  rw [← Nat.add_assoc] at this
  exact this
set_option maxHeartbeats 1600000 in
theorem wspec_ok (w : World) (p b o : Nat) (v : Value) (t : List UInt8) (s : Spc) (hw : WrB w p v t) (hf : PA spcR (fun b => b < p) w b o s) (hG : GP w) (hp : 10 ≤ p) (hz : szS s ≤ 1000000) (hl : t.length ≤ 100000000) :
  FnP Tryz.prog 47 [pt p, .pointer (some ⟨b, o, none⟩)] w (fun _ w' => WAns p v t (spcT s) (okSpc s) w w') (WPan p v (okSpc s) w) := by
 obtain ⟨sa, sc, ra, rc, LS, LR, hV⟩ : ∃ sa sc ra rc LS LR, SpV w p b o s sa ra sc rc LS LR := by
  obtain ⟨hb, d, hcl, sv, rv, rfl, ⟨sa, sc, LS, rfl, h1, h2⟩, ⟨ra, rc, LR, rfl, h3, h4⟩⟩ := id hf
  exact ⟨sa, sc, ra, rc, LS, LR, hb, hcl 0 _ rfl, hcl 1 _ rfl, h1, h2, h3, h4⟩
 clear hf
 have hsl : s.sigs.length ≤ 1000000 := by unfold szS at hz; omega
 have hrz : szR s.reqs ≤ 1000000 := by unfold szS at hz; omega
 have hrl := szR_len s.reqs
 refine Aq Tryz.func47 rfl Tryz.ntmps47 (Nat.le_of_ble_eq_true rfl) (by kernel_rfl) ?_
 repeat refine nx rfl ?_
 have c0 := hV.c0
 (refine AA (AK rfl (AF rfl (AD rfl (AG rfl (by assumption) ?_)))) <;> refine As rfl (AH rfl (AI ?_)))
 repeat' first | refine AI ?_ | refine Q_then ?_ | refine C_seq ?_
 refine CV (α := Value) (fun _ => [(0, pt p), (1, .pointer (some ⟨b, o, none⟩))]) (fun v1 W => s.sigs.all okS = true ∧ WrB W p v1 (t ++ s.sigs.flatMap sgnT) ∧ Wrote p v v1 w W) ?_ ?_
 ·repeat refine nx rfl ?_
  refine BY (α := Nat × Value) (fun x => [(0, pt p), (1, .pointer (some ⟨b, o, none⟩)), (11, .slice sa s.sigs.length sc), (12, .int .i64 (s.sigs.length : Int)), (13, .int .i64 (x.1 : Int))])
   (fun x W => x.1 ≤ s.sigs.length ∧ (s.sigs.take x.1).all okS = true ∧ WrB W p x.2 (t ++ (s.sigs.take x.1).flatMap sgnT) ∧ Wrote p v x.2 w W) (fun x => s.sigs.length - x.1) (0, v) ⟨rfl, rfl, rfl, rfl, rfl, trivial⟩ ⟨by simp, by simp, by simpa using hw, Wrote.refl _ _ _⟩ ?_
  rintro ⟨k, v1⟩ w1 f1 ⟨hk, hok, hw1, k1⟩
  simp only at hk hok hw1 k1 ⊢
  repeat refine nx rfl ?_
  by_cases hlt : k < s.sigs.length
  ·refine AA (BM rfl rfl (by omega) ?_)
   repeat refine nx rfl ?_
   obtain ⟨x, hx⟩ : ∃ x, s.sigs[k]? = some x := ⟨_, List.getElem?_eq_getElem hlt⟩
   have hV1 := hV.wrote k1 hw
   obtain ⟨d, hd⟩ : ∃ d, LS[k]? = some d := ⟨_, List.getElem?_eq_getElem (by rw [hV.sr.1]; exact hlt)⟩
   obtain ⟨bs, os, rfl, hbs, hcs⟩ := hV1.ss.row hV1.sr hd hlt
   have hdx : d = Ce x := hV1.sr.2 k d x hd hx
   subst hdx
   refine AA ?_
   refine CH (k := k) rfl rfl rfl (by omega) ?_
   refine AZ (L := Ce x) rfl rfl hcs ?_
   refine BE (cs := Ce x) rfl rfl (by rfl) (sgnR.one (ok := BH) (w := w) (a := x) rfl) (fun w2 n2 => ?_)
   repeat refine nx rfl ?_
   refine AA (AK rfl (AW (L := Ce x) rfl n2.blk rfl ?_))
   have hw2 := hw1.ext n2.keep
   have k2 := k1.ext n2.keep
   have hsl1 := sigs_len _ hok
   have htk : (s.sigs.take k).length ≤ 1000000 := by simp; omega
   refine AX (wsig_ok w2 p v1 _ x hw2 (k2.gp hw hG hp) hp (by rw [List.length_append]; omega)) rfl ?_ ?_
   rotate_left
   ·rintro ch w3 ⟨rfl, hb3, v3, k3⟩
    repeat refine nx rfl ?_
    refine AV ⟨rfl, ?_, v3, k2.trans k3⟩
    have : s.sigs.all okS = false := by
     rw [← Bool.not_eq_true, List.all_eq_true]
     intro h
     have := h x (List.mem_of_getElem? hx)
     rw [hb3] at this; cases this
    simp [okSpc, this]
   rintro _ w3 ⟨hok3, v3, hw3, k3⟩
   repeat refine nx rfl ?_
   (refine AA (BR rfl rfl (by first | exact Al (by omega) (by omega) | exact At (by omega) (by omega) | exact Am (by omega) (by omega)) ?_) <;> refine AH rfl ?_)
   repeat refine nx rfl ?_
   have e : s.sigs.take (k + 1) = s.sigs.take k ++ [x] := by rw [List.take_add_one, hx]; rfl
   refine ⟨(k + 1, v3), ⟨rfl, ⟨rfl, rfl, rfl, rfl, ?_, trivial⟩, ⟨hlt, ?_, ?_, k2.trans k3⟩⟩, by simp only; omega⟩
   ·show Value.int .i64 ((k : Int) + 1) = _
    rw [Int.natCast_add]; rfl
   ·simp only; rw [e, List.all_append, hok]; simp [hok3]
   ·simp only; rw [e, List.flatMap_append]; simpa using hw3
  ·refine AA (BN rfl rfl (by omega) ?_)
   repeat first | refine nx rfl ?_ | refine nf rfl ?_
   have e : k = s.sigs.length := by omega
   subst e
   rw [List.take_length] at hok hw1
   exact Ar v1 ⟨rfl, rfl, trivial⟩ ⟨hok, hw1, k1⟩
 rintro v1 w1 f1 ⟨hoks, hw1, k1⟩
 have hV1 := hV.wrote k1 hw
 have c1 := hV1.c1
 have hG1 := k1.gp hw hG hp
 have hsl1 := sigs_len _ hoks
 generalize htt : t ++ s.sigs.flatMap sgnT = tt at hw1
 have httl : tt.length ≤ 100000000 + 44000000 := by rw [← htt, List.length_append]; omega
 repeat refine nx rfl ?_
 (refine AA (AK rfl (AF rfl (AD rfl (AG rfl (by assumption) ?_)))) <;> refine As rfl (AH rfl ?_))
 repeat refine nx rfl ?_
 refine BY (α := Nat × Value) (fun x => [(0, pt p), (1, .pointer (some ⟨b, o, none⟩)), (24, .slice ra s.reqs.length rc), (25, .int .i64 (s.reqs.length : Int)), (26, .int .i64 (x.1 : Int))])
  (fun x W => x.1 ≤ s.reqs.length ∧ (s.reqs.take x.1).all okRq = true ∧ WrB W p x.2 (tt ++ (List.range x.1).flatMap (rqI s.reqs)) ∧ Wrote p v x.2 w W) (fun x => s.reqs.length - x.1) (0, v1) ⟨rfl, rfl, rfl, rfl, rfl, trivial⟩ ⟨by simp, by simp, by simpa using hw1, k1⟩ ?_
 clear c0 c1
 rintro ⟨k, v2⟩ w2 f2 ⟨hk, hok, hw2, k2⟩
 simp only at hk hok hw2 k2 ⊢
 repeat refine nx rfl ?_
 by_cases hlt : k < s.reqs.length
 ·obtain ⟨r, hr⟩ : ∃ r, s.reqs[k]? = some r := ⟨_, List.getElem?_eq_getElem hlt⟩
  have hlen2 := rqs_len s.reqs k hk hok
  have hle2 := szR_le s.reqs k
  have hle3 := szR_le s.reqs (k + 1)
  rw [szR_take hr] at hle3
  generalize hut : tt ++ (List.range k).flatMap (rqI s.reqs) = ut at hw2
  have hutl : ut.length ≤ 144000000 + 44 * szR s.reqs := by rw [← hut, List.length_append]; omega
  have hbad : okRq r = false → okSpc s = false := fun h => by
   have : s.reqs.all okRq = false := by
    rw [← Bool.not_eq_true, List.all_eq_true]
    intro h2
    have := h2 r (List.mem_of_getElem? hr)
    rw [h] at this; cases this
   simp [okSpc, this]
  have hV2 := hV.wrote k2 hw
  obtain ⟨d, hd⟩ : ∃ d, LR[k]? = some d := ⟨_, List.getElem?_eq_getElem (by rw [hV.rr.1]; exact hlt)⟩
  obtain ⟨br, or, era, hbr, hcr⟩ := hV2.rs.row hV2.rr hd hlt
  subst era
  have hprt : ∀ (W : World), SpV W p b o s sa (some ⟨br, or, none⟩) sc rc LS LR → ∀ j r', s.reqs[j]? = some r' → W.cell? ⟨br, or + j * 8 + 0, none⟩ = some (AM r'.part) := by
   intro W hVW j r' hr'
   have hj := (List.getElem?_eq_some_iff.1 hr').1
   obtain ⟨d', hd'⟩ : ∃ d, LR[j]? = some d := ⟨_, List.getElem?_eq_getElem (by rw [hV.rr.1]; exact hj)⟩
   obtain ⟨_, _, e, _, hcr'⟩ := hVW.rs.row hVW.rr hd' hj
   cases e
   obtain ⟨d5, e5, _⟩ := hVW.rr.2 j d' r' hd' hr'
   exact hcr' 0 _ (by rw [e5]; rfl)
  have c1 := hV2.c1
  refine AA (BM rfl rfl (by omega) ?_)
  repeat refine nx rfl ?_
  refine AA (AH rfl (AB (AH rfl ?_)))
  repeat refine nx rfl ?_
  (refine AA (AK rfl (AF rfl (AD rfl (AG rfl (by assumption) ?_)))) <;> refine AH rfl (CH rfl rfl rfl (by omega) (AB (AK rfl (AI ?_)))))
  repeat' first | refine AI ?_ | refine Q_then ?_ | refine C_seq ?_
  generalize hcc : decide (k = 0 ∨ (s.reqs[k - 1]?).map (·.part) ≠ some r.part) = cc
  refine CV (α := Unit) (fun _ => [(0, pt p), (1, .pointer (some ⟨b, o, none⟩)), (6, .int .i64 (k : Int)), (7, .pointer (some ⟨br, or + k * 8, none⟩)), (24, .slice (some ⟨br, or, none⟩) s.reqs.length rc), (25, .int .i64 (s.reqs.length : Int)), (26, .int .i64 (k : Int)), (52, .bool cc)]) (fun _ W => Ext w2 W) ?_ ?_
  ·refine A7 (.read 0 (.read 1 (.read 2 (.read 3 (.read 4 (.read 5 (.read 6 (.read 7 (.read 8 (.read 9 (.read 10 (.read 11 (.read 12 (.read 13 (.read 14 (.read 15 (.read 16 (.read 17 .done)))))))))))))))))) BA (by kernel_rfl) (fun wd kd ed => ⟨Ext wd, ?_, ?_⟩)
   ·exact Ext.refl _
   have fsv : ∀ W, Ext wd W → W.cell? ⟨b, o + 1, none⟩ = some (.slice (some ⟨br, or, none⟩) s.reqs.length rc) := fun W e => ((hV2.ext kd).ext e).c1
   have fr0 : ∀ W, Ext wd W → W.cell? ⟨br, or + k * 8 + 0, none⟩ = some (AM r.part) := fun W e => hprt W ((hV2.ext kd).ext e) k r hr
   by_cases hk0 : k = 0
   ·subst hk0
    have ecc : cc = true := by rw [← hcc]; simp
    subst ecc
    refine D_R rfl rfl (fun W hW => AH rfl Z3) (D_eqlT rfl rfl rfl rfl (by omega) (D_R rfl rfl (fun W hW => AC rfl Z3) (Ao rfl rfl rfl rfl (Ao rfl rfl rfl rfl (Ao rfl rfl rfl rfl (Ao rfl rfl rfl rfl (Ao rfl rfl rfl rfl (Ao rfl rfl rfl rfl (Ao rfl rfl rfl rfl (Ao rfl rfl rfl rfl (Ao rfl rfl rfl rfl (Ao rfl rfl rfl rfl (Ao rfl rfl rfl rfl (Ao rfl rfl rfl rfl (Ao rfl rfl rfl rfl (Ao rfl rfl rfl rfl (D_R rfl rfl (fun W hW => AO rfl (AC rfl Z3)) (Ay ?_))))))))))))))))))
    repeat refine nx rfl ?_
    exact Ar () ⟨rfl, rfl, rfl, rfl, rfl, rfl, rfl, rfl, trivial⟩ kd
   ·obtain ⟨r', hr'⟩ : ∃ r', s.reqs[k - 1]? = some r' := ⟨_, List.getElem?_eq_getElem (by omega)⟩
    have fp0 : ∀ W, Ext wd W → W.cell? ⟨br, or + ((k : Int) - 1).toNat * 8 + 0, none⟩ = some (AM r'.part) := fun W e => by
     rw [show ((k : Int) - 1).toNat = k - 1 by omega]
     exact hprt W ((hV2.ext kd).ext e) (k - 1) r' hr'
    (refine D_R rfl rfl (fun W hW => AH rfl Z3) (D_eqlF rfl rfl rfl rfl (by omega) (D_R rfl rfl (fun W hW => AC rfl Z3) (D_R rfl rfl (fun W hW => AE rfl (AK rfl Z3)) (D_R rfl rfl (fun W hW => AE rfl (AF rfl Z3)) (D_R rfl rfl (fun W hW => AE rfl (AD rfl Z3)) (D_R rfl rfl (fun W hW => AE rfl (AG rfl (fsv W hW) Z3)) (D_R rfl rfl (fun W hW => AE rfl (AH rfl Z3)) ?_))))))) <;> (apply D_R rfl rfl; (intro W hW; (refine AE rfl ?_; refine W_sub rfl rfl (by first | exact Al (by omega) (by omega) | exact At (by omega) (by omega) | exact Am (by omega) (by omega)) ?_); exact Z3)) <;> refine D_R rfl rfl (fun W hW => AE rfl (BI rfl rfl (by omega) (by omega) Z3)) (D_R rfl rfl (fun W hW => AE rfl (AD rfl Z3)) (D_R rfl rfl (fun W hW => AE rfl (AG rfl (fp0 W hW) Z3)) (D_R rfl rfl (fun W hW => AE rfl (AK rfl Z3)) (D_R rfl rfl (fun W hW => AE rfl (AF rfl Z3)) (D_R rfl rfl (fun W hW => AE rfl (AD rfl Z3)) (D_R rfl rfl (fun W hW => AE rfl (AG rfl (fr0 W hW) Z3)) ?_)))))) <;> (refine D_sneq rfl rfl rfl rfl (fun hc => ?_) (fun hc => ?_)) <;> refine D_R rfl rfl (fun W hW => AQ rfl (AC rfl Z3)) (Ay ?_))
    ·have ecc : cc = true := by rw [← hcc, hr']; simp; exact .inr (by assumption)
     subst ecc
     repeat refine nx rfl ?_
     exact Ar () ⟨rfl, rfl, rfl, rfl, rfl, rfl, rfl, rfl, trivial⟩ kd
    ·have ecc : cc = false := by rw [← hcc, hr']; simp [hk0]; assumption
     subst ecc
     repeat refine nx rfl ?_
     exact Ar () ⟨rfl, rfl, rfl, rfl, rfl, rfl, rfl, rfl, trivial⟩ kd
  rintro _ w3 f3 k3
  have hw3 := hw2.ext k3
  have k23 := k2.ext k3
  have hV3 := hV2.ext k3
  refine CV (α := Value) (fun _ => [(0, pt p), (1, .pointer (some ⟨b, o, none⟩)), (6, .int .i64 (k : Int)), (7, .pointer (some ⟨br, or + k * 8, none⟩)), (24, .slice (some ⟨br, or, none⟩) s.reqs.length rc), (25, .int .i64 (s.reqs.length : Int)), (26, .int .i64 (k : Int))])
   (fun v3 W => BS r.part = true ∧ WrB W p v3 (ut ++ if cc then [112, 97, 114, 116, 32] ++ (r.part ++ [32, 123, 10]) else []) ∧ Wrote p v v3 w W) ?_ ?_
  ·cases cc with
   | true =>
    repeat refine nx rfl ?_
    have hp3 := hprt w3 hV3 k r hr
    refine AA (AK rfl (AK rfl (AF rfl (AD rfl (AG rfl (by assumption) ?_)))))
    refine AX (wname_ok w3 r.part (k23.gp hw hG hp).gk) rfl ?_ ?_
    rotate_left
    ·rintro ch w4 ⟨rfl, hb, rfl⟩
     repeat refine nx rfl ?_
     exact AV ⟨rfl, hbad (by simp [okRq, hb]), v2, k23⟩
    rintro _ w4 ⟨rfl, hnm, rfl⟩
    have hnl := (Ba hnm).2.1
    refine AT (out := [AM [112, 97, 114, 116, 32], AM r.part, AM [32, 123, 10]]) rfl (by omega) (by kernel_rfl) (fun w5 n5 => ?_)
    refine AS (CE (parts := [[112, 97, 114, 116, 32], r.part, [32, 123, 10]]) hw3 n5 (by simp) (by simp; omega)) rfl ?_
    rintro _ w6 ⟨v6, hw6, k6⟩
    repeat refine nx rfl ?_
    refine Ar v6 ⟨rfl, rfl, rfl, rfl, rfl, rfl, rfl, trivial⟩ ⟨hnm, ?_, k23.trans k6⟩
    rw [if_pos rfl]
    simpa using hw6
   | false =>
    repeat first | refine nx rfl ?_ | refine nf rfl ?_
    refine Ar v2 ⟨rfl, rfl, rfl, rfl, rfl, rfl, rfl, trivial⟩ ⟨?_, by simpa using hw3, k23⟩
    simp only [decide_eq_false_iff_not, not_or, ne_eq, Decidable.not_not] at hcc
    obtain ⟨r', hr', e⟩ := Option.map_eq_some_iff.1 hcc.2
    have := List.all_eq_true.1 hok r' (List.mem_of_getElem? (i := k - 1) (by rw [List.getElem?_take_of_lt (by omega)]; exact hr'))
    simp only [okRq, Bool.and_eq_true] at this
    rw [← e]; exact this.1
  rintro v3 w4 f4 ⟨hnm, hw4, k4⟩
  have hnl := (Ba hnm).2.1
  generalize hot : (if cc then [112, 97, 114, 116, 32] ++ (r.part ++ [32, 123, 10]) else [] : List UInt8) = ot at hw4
  have hotl : ot.length ≤ 20 := by rw [← hot]; split <;> simp; omega
  repeat refine nx rfl ?_
  refine AA (AK rfl ?_)
  refine AT (out := [AM [32, 32]]) rfl (by omega) (by kernel_rfl) (fun w5 n5 => ?_)
  refine AS (CE (parts := [[32, 32]]) hw4 n5 (by simp) (by simp; omega)) rfl ?_
  rintro _ w6 ⟨v6, hw6, k6⟩
  repeat refine nx rfl ?_
  have k46 := k4.trans k6
  have hV6 := hV.wrote k46 hw
  have hG6 := k46.gp hw hG hp
  have hpa : PA reqR (fun b => b < p) w6 br (or + k * 8) r := by
   obtain ⟨_, _, e, hb6, hcr6⟩ := hV6.rs.row hV6.rr hd hlt
   cases e
   exact ⟨hb6, d, hcr6, hV6.rr.2 k d r hd hr⟩
  refine AA (AK rfl (AK rfl ?_))
  refine AX (wreq_ok w6 p br (or + k * 8) v6 _ r hw6 hpa hG6 hp (by omega) (by simp; omega)) rfl ?_ ?_
  rotate_left
  ·rintro ch w7 ⟨rfl, hb, v7, k7⟩
   repeat refine nx rfl ?_
   exact AV ⟨rfl, hbad (by simp [okRq, hb]), v7, k46.trans k7⟩
  rintro _ w7 ⟨hrok, v7, hw7, k7⟩
  have hrtl := reqT_len hrok
  repeat refine nx rfl ?_
  have k47 := k46.trans k7
  refine AA (AK rfl ?_)
  refine AT (out := [AM [59, 10]]) rfl (by omega) (by kernel_rfl) (fun w8 n8 => ?_)
  refine AS (CE (parts := [[59, 10]]) hw7 n8 (by simp) (by simp; omega)) rfl ?_
  rintro _ w9 ⟨v9, hw9, k9⟩
  have k49 := k47.trans k9
  have hV9 := hV.wrote k49 hw
  repeat' first | refine AI ?_ | refine Q_then ?_ | refine C_seq ?_
  generalize hce : decide (k + 1 = s.reqs.length ∨ (s.reqs[k + 1]?).map (·.part) ≠ some r.part) = ce
  refine CV (α := Unit) (fun _ => [(0, pt p), (1, .pointer (some ⟨b, o, none⟩)), (24, .slice (some ⟨br, or, none⟩) s.reqs.length rc), (25, .int .i64 (s.reqs.length : Int)), (26, .int .i64 (k : Int)), (93, .bool ce)]) (fun _ W => Ext w9 W) ?_ ?_
  ·refine A7 (.read 0 (.read 1 (.read 2 (.read 3 (.read 4 (.read 5 (.read 6 (.read 7 (.read 8 (.read 9 (.read 10 (.read 11 (.read 12 (.read 13 (.read 14 (.read 15 (.read 16 (.read 17 (.read 18 (.read 19 (.read 20 (.read 21 (.read 22 (.read 23 .done)))))))))))))))))))))))) BA (by kernel_rfl) (fun wd kd ed => ⟨Ext wd, ?_, ?_⟩)
   ·exact Ext.refl _
   have fsv : ∀ W, Ext wd W → W.cell? ⟨b, o + 1, none⟩ = some (.slice (some ⟨br, or, none⟩) s.reqs.length rc) := fun W e => ((hV9.ext kd).ext e).c1
   have fr0 : ∀ W, Ext wd W → W.cell? ⟨br, or + k * 8 + 0, none⟩ = some (AM r.part) := fun W e => hprt W ((hV9.ext kd).ext e) k r hr
   by_cases hk0 : k + 1 = s.reqs.length
   ·have ecc : ce = true := by rw [← hce]; simp [hk0]
    subst ecc
    (refine D_R rfl rfl (fun W hW => AH rfl Z3) ?_ <;> (apply D_R rfl rfl; (intro W hW; refine BR rfl rfl (by first | exact Al (by omega) (by omega) | exact At (by omega) (by omega) | exact Am (by omega) (by omega)) ?_; exact Z3)) <;> refine D_R rfl rfl (fun W hW => AK rfl Z3) (D_R rfl rfl (fun W hW => AF rfl Z3) (D_R rfl rfl (fun W hW => AD rfl Z3) (D_R rfl rfl (fun W hW => AG rfl (fsv W hW) Z3) (D_R rfl rfl (fun W hW => As rfl Z3) (D_eqlT rfl rfl rfl rfl (by omega) (D_R rfl rfl (fun W hW => AC rfl Z3) (Ao rfl rfl rfl rfl (Ao rfl rfl rfl rfl (Ao rfl rfl rfl rfl (Ao rfl rfl rfl rfl (Ao rfl rfl rfl rfl (Ao rfl rfl rfl rfl (Ao rfl rfl rfl rfl (Ao rfl rfl rfl rfl (Ao rfl rfl rfl rfl (Ao rfl rfl rfl rfl (Ao rfl rfl rfl rfl (Ao rfl rfl rfl rfl (Ao rfl rfl rfl rfl (Ao rfl rfl rfl rfl (D_R rfl rfl (fun W hW => AO rfl (AC rfl Z3)) (Ay ?_)))))))))))))))))))))))
    repeat refine nx rfl ?_
    exact Ar () ⟨rfl, rfl, rfl, rfl, rfl, rfl, trivial⟩ kd
   ·obtain ⟨r', hr'⟩ : ∃ r', s.reqs[k + 1]? = some r' := ⟨_, List.getElem?_eq_getElem (by omega)⟩
    have fp0 : ∀ W, Ext wd W → W.cell? ⟨br, or + ((k : Int) + 1).toNat * 8 + 0, none⟩ = some (AM r'.part) := fun W e => by
     rw [show ((k : Int) + 1).toNat = k + 1 by omega]
     exact hprt W ((hV9.ext kd).ext e) (k + 1) r' hr'
    have fp1 : ∀ W, Ext wd W → W.cell? ⟨br, or + (k + 1) * 8 + 0, none⟩ = some (AM r'.part) := fun W e => hprt W ((hV9.ext kd).ext e) (k + 1) r' hr'
    (refine D_R rfl rfl (fun W hW => AH rfl Z3) ?_ <;> (apply D_R rfl rfl; (intro W hW; refine BR rfl rfl (by first | exact Al (by omega) (by omega) | exact At (by omega) (by omega) | exact Am (by omega) (by omega)) ?_; exact Z3)) <;> refine D_R rfl rfl (fun W hW => AK rfl Z3) (D_R rfl rfl (fun W hW => AF rfl Z3) (D_R rfl rfl (fun W hW => AD rfl Z3) (D_R rfl rfl (fun W hW => AG rfl (fsv W hW) Z3) (D_R rfl rfl (fun W hW => As rfl Z3) (D_eqlF rfl rfl rfl rfl (by omega) (D_R rfl rfl (fun W hW => AC rfl Z3) (D_R rfl rfl (fun W hW => AE rfl (AK rfl Z3)) (D_R rfl rfl (fun W hW => AE rfl (AF rfl Z3)) (D_R rfl rfl (fun W hW => AE rfl (AD rfl Z3)) (D_R rfl rfl (fun W hW => AE rfl (AG rfl (fsv W hW) Z3)) (D_R rfl rfl (fun W hW => AE rfl (AH rfl Z3)) ?_))))))))))) <;> (apply D_R rfl rfl; (intro W hW; (refine AE rfl ?_; refine BR rfl rfl (by first | exact Al (by omega) (by omega) | exact At (by omega) (by omega) | exact Am (by omega) (by omega)) ?_); exact Z3)) <;> refine D_R rfl rfl (fun W hW => AE rfl (BI rfl rfl (by omega) (by omega) Z3)) (D_R rfl rfl (fun W hW => AE rfl (AD rfl Z3)) (D_R rfl rfl (fun W hW => AE rfl (AG rfl (fp0 W hW) Z3)) (D_R rfl rfl (fun W hW => AE rfl (AK rfl Z3)) (D_R rfl rfl (fun W hW => AE rfl (AF rfl Z3)) (D_R rfl rfl (fun W hW => AE rfl (AD rfl Z3)) (D_R rfl rfl (fun W hW => AE rfl (AG rfl (fr0 W hW) Z3)) ?_)))))) <;> (refine D_sneq rfl rfl rfl rfl (fun hc => ?_) (fun hc => ?_)) <;> refine D_R rfl rfl (fun W hW => AQ rfl (AC rfl Z3)) (Ay ?_))
    ·have ecc : ce = true := by rw [← hce, hr']; simp; exact .inr (by assumption)
     subst ecc
     repeat refine nx rfl ?_
     exact Ar () ⟨rfl, rfl, rfl, rfl, rfl, rfl, trivial⟩ kd
    ·have ecc : ce = false := by rw [← hce, hr']; simp [hk0]; assumption
     subst ecc
     repeat refine nx rfl ?_
     exact Ar () ⟨rfl, rfl, rfl, rfl, rfl, rfl, trivial⟩ kd
  rintro _ w10 f10 k10
  have hw10 := hw9.ext k10
  have k410 := k49.ext k10
  have hrq : okRq r = true := by simp [okRq, hnm, hrok]
  have ext1 : s.reqs.take (k + 1) = s.reqs.take k ++ [r] := by rw [List.take_add_one, hr]; rfl
  have hok' : (s.reqs.take (k + 1)).all okRq = true := by rw [ext1, List.all_append, hok]; simp [hrq]
  have hot2 : (if k = 0 ∨ (s.reqs[k - 1]?).map (·.part) ≠ some r.part then [112, 97, 114, 116, 32] ++ (r.part ++ [32, 123, 10]) else [] : List UInt8) = ot := by
   rw [← hot, ← hcc]; simp only [decide_eq_true_eq]
  have htext : tt ++ (List.range (k + 1)).flatMap (rqI s.reqs) = ut ++ ot ++ [[32, 32]].flatten ++ reqT r ++ [[59, 10]].flatten ++ (if ce then [125, 10] else []) := by
   rw [List.range_succ, List.flatMap_append, ← List.append_assoc, hut]
   have e : rqI s.reqs k = ot ++ ([32, 32] ++ (reqT r ++ ([59, 10] ++ (if ce then [125, 10] else [])))) := by
    unfold rqI
    rw [hr]
    simp only
    rw [hot2, ← hce]
    simp only [decide_eq_true_eq]
   simp [e]
  cases ce with
  | true =>
   repeat refine nx rfl ?_
   refine AA (AK rfl ?_)
   refine AT (out := [AM [125, 10]]) rfl (by omega) (by kernel_rfl) (fun w11 n11 => ?_)
   refine AS (CE (parts := [[125, 10]]) hw10 n11 (by simp) (by simp; omega)) rfl ?_
   rintro _ w12 ⟨v12, hw12, k12⟩
   repeat refine nx rfl ?_
   have hw12' : WrB w12 p v12 (tt ++ (List.range (k + 1)).flatMap (rqI s.reqs)) := by
    rw [htext, if_pos rfl]
    simpa using hw12
   (refine AA (BR rfl rfl (by first | exact Al (by omega) (by omega) | exact At (by omega) (by omega) | exact Am (by omega) (by omega)) ?_) <;> refine AH rfl ?_)
   repeat refine nx rfl ?_
   refine ⟨(k + 1, v12), ⟨rfl, ⟨rfl, rfl, rfl, rfl, ?_, trivial⟩, ⟨hlt, hok', hw12', (k410.trans k12)⟩⟩, by simp only; omega⟩
   show Value.int .i64 ((k : Int) + 1) = _
   rw [Int.natCast_add]; rfl
  | false =>
   repeat first | refine nx rfl ?_ | refine nf rfl ?_
   have hw12' : WrB w10 p v9 (tt ++ (List.range (k + 1)).flatMap (rqI s.reqs)) := by
    rw [htext, if_neg (by simp)]
    simpa using hw10
   (refine AA (BR rfl rfl (by first | exact Al (by omega) (by omega) | exact At (by omega) (by omega) | exact Am (by omega) (by omega)) ?_) <;> refine AH rfl ?_)
   repeat refine nx rfl ?_
   refine ⟨(k + 1, v9), ⟨rfl, ⟨rfl, rfl, rfl, rfl, ?_, trivial⟩, ⟨hlt, hok', hw12', k410⟩⟩, by simp only; omega⟩
   show Value.int .i64 ((k : Int) + 1) = _
   rw [Int.natCast_add]; rfl
 ·refine AA (BN rfl rfl (by omega) ?_)
  repeat first | refine nx rfl ?_ | refine nf rfl ?_
  have e : k = s.reqs.length := by omega
  subst e
  rw [List.take_length] at hok
  refine Az rfl ⟨by simp [okSpc, hoks, hok], v2, ?_, k2⟩
  have e : t ++ spcT s = tt ++ (List.range s.reqs.length).flatMap (rqI s.reqs) := by rw [← htt]; simp [spcT, rqsT]
  rw [e]
  exact hw2
end Go.Proofs.YtfcgdbmoncnibaaGreatDoor
namespace Go.Proofs.YtfcgdbmoncnibaaGreatDoor
open Go.RowKit
set_option linter.unusedVariables false
def blankB (r : Rqm) : Bool := r.part.isEmpty && decide (r.kind = 0) && decide (r.formula.op = 0) && r.formula.name.isEmpty && decide (r.formula.val = 0) && decide (r.formula.bound = 0) && r.formula.args.isEmpty
set_option maxHeartbeats 1600000 in
theorem wblank_ok (w : World) (b o : Nat) (r : Rqm) (hf : PA reqR BH w b o r) :
  Fn Tryz.prog 85 [.pointer (some ⟨b, o, none⟩)] w (fun u w' => u = .bool (blankB r) ∧ w' = w) := by
 obtain ⟨_, d', hcl, d, rfl, hd, hfa⟩ := id hf
 obtain ⟨av, e, L, hS, hFA, _⟩ := hfa.form
 obtain ⟨a, c, rfl, _⟩ := id hS
 have e := congrArg Array.toList (Value.agg.inj e)
 have e : d = fcC r.formula (.slice a r.formula.args.length c) := e
 subst e
 have c0 : w.cell? ⟨b, o + 0, none⟩ = some (AM r.part) := hcl 0 _ rfl
 have c2 : w.cell? ⟨b, o + 2, none⟩ = some (.int .i64 r.kind) := hcl 2 _ rfl
 have c3 : w.cell? ⟨b, o + 3 + 0, none⟩ = some (.int .i64 r.formula.op) := hcl 3 _ rfl
 have c4 : w.cell? ⟨b, o + 3 + 1, none⟩ = some (AM r.formula.name) := hcl 4 _ rfl
 have c5 : w.cell? ⟨b, o + 3 + 2, none⟩ = some (.int .i64 r.formula.val) := hcl 5 _ rfl
 have c6 : w.cell? ⟨b, o + 3 + 3, none⟩ = some (.int .i64 r.formula.bound) := hcl 6 _ rfl
 have c7 : w.cell? ⟨b, o + 3 + 4, none⟩ = some (.slice a r.formula.args.length c) := hcl 7 _ rfl
 refine Ad Tryz.func85 rfl Tryz.ntmps85 (Nat.le_of_ble_eq_true rfl) (by kernel_rfl) ?_
 repeat refine nx rfl ?_
 refine AA (AB (AC rfl ?_))
 repeat refine nx rfl ?_
 refine AA (AK rfl (AF rfl (AD rfl (AB (AK rfl ?_)))))
 repeat refine nx rfl ?_
 (refine AA (AK rfl (AF rfl (AD rfl (AG rfl (by assumption) ?_)))) <;> refine CK rfl rfl (fun hc => ?_) (fun hc => ?_) <;> refine AC rfl ?_ <;> (first | refine AJ rfl ?_ | (refine AE rfl ?_; refine AK rfl ?_)) <;> (first | refine AJ rfl ?_ | (refine AE rfl ?_; refine AF rfl ?_)) <;> (first | refine AJ rfl ?_ | (refine AE rfl ?_; refine AD rfl ?_)) <;> (first | refine AJ rfl ?_ | (refine AE rfl ?_; refine AG rfl (by assumption) ?_)) <;> (first | refine AJ rfl ?_ | (refine AE rfl ?_; (refine By rfl rfl (fun hc => ?_) (fun hc => ?_) <;> try omega))) <;> ((first | refine AO rfl ?_ | refine AQ rfl ?_); refine AC rfl ?_) <;> refine AC rfl ?_ <;> (first | refine AJ rfl ?_ | (refine AE rfl ?_; refine AK rfl ?_)) <;> (first | refine AJ rfl ?_ | (refine AE rfl ?_; refine AF rfl ?_)) <;> (first | refine AJ rfl ?_ | (refine AE rfl ?_; refine AD rfl ?_)) <;> (first | refine AJ rfl ?_ | (refine AE rfl ?_; refine AG rfl (by assumption) ?_)) <;> (first | refine AJ rfl ?_ | (refine AE rfl ?_; (refine By rfl rfl (fun hc => ?_) (fun hc => ?_) <;> try omega))) <;> ((first | refine AO rfl ?_ | refine AQ rfl ?_); refine AC rfl ?_) <;> refine AC rfl ?_ <;> (first | refine AJ rfl ?_ | (refine AE rfl ?_; refine AK rfl ?_)) <;> (first | refine AJ rfl ?_ | (refine AE rfl ?_; refine AF rfl ?_)) <;> (first | refine AJ rfl ?_ | (refine AE rfl ?_; refine AD rfl ?_)) <;> (first | refine AJ rfl ?_ | (refine AE rfl ?_; refine AG rfl (by assumption) ?_)) <;> (first | refine AJ rfl ?_ | (refine AE rfl ?_; refine CK rfl rfl (fun hc => ?_) (fun hc => ?_))) <;> ((first | refine AO rfl ?_ | refine AQ rfl ?_); refine AC rfl ?_) <;> refine AC rfl ?_ <;> (first | refine AJ rfl ?_ | (refine AE rfl ?_; refine AK rfl ?_)) <;> (first | refine AJ rfl ?_ | (refine AE rfl ?_; refine AF rfl ?_)) <;> (first | refine AJ rfl ?_ | (refine AE rfl ?_; refine AD rfl ?_)) <;> (first | refine AJ rfl ?_ | (refine AE rfl ?_; refine AG rfl (by assumption) ?_)) <;> (first | refine AJ rfl ?_ | (refine AE rfl ?_; (refine By rfl rfl (fun hc => ?_) (fun hc => ?_) <;> try omega))) <;> ((first | refine AO rfl ?_ | refine AQ rfl ?_); refine AC rfl ?_) <;> refine AC rfl ?_ <;> (first | refine AJ rfl ?_ | (refine AE rfl ?_; refine AK rfl ?_)) <;> (first | refine AJ rfl ?_ | (refine AE rfl ?_; refine AF rfl ?_)) <;> (first | refine AJ rfl ?_ | (refine AE rfl ?_; refine AD rfl ?_)) <;> (first | refine AJ rfl ?_ | (refine AE rfl ?_; refine AG rfl (by assumption) ?_)) <;> (first | refine AJ rfl ?_ | (refine AE rfl ?_; (refine By rfl rfl (fun hc => ?_) (fun hc => ?_) <;> try omega))) <;> ((first | refine AO rfl ?_ | refine AQ rfl ?_); refine AC rfl ?_) <;> refine AC rfl ?_ <;> (first | refine AJ rfl ?_ | (refine AE rfl ?_; refine AK rfl ?_)) <;> (first | refine AJ rfl ?_ | (refine AE rfl ?_; refine AF rfl ?_)) <;> (first | refine AJ rfl ?_ | (refine AE rfl ?_; refine AD rfl ?_)) <;> (first | refine AJ rfl ?_ | (refine AE rfl ?_; refine AG rfl (by assumption) ?_)) <;> (first | refine AJ rfl ?_ | (refine AE rfl ?_; refine As rfl ?_)) <;> (first | refine AJ rfl ?_ | (refine AE rfl ?_; (refine By rfl rfl (fun hc => ?_) (fun hc => ?_) <;> try omega))) <;> ((first | refine AO rfl ?_ | refine AQ rfl ?_); refine AC rfl ?_) <;> refine AB (AC rfl (AI ?_)))
 all_goals
  repeat refine nx rfl ?_
  refine AP rfl ⟨congrArg Value.bool ?_, rfl⟩
  clear hcl hfa hS hd hf c0 c2 c3 c4 c5 c6 c7
  simp [blankB, *]
 all_goals
  first
  | exact List.length_eq_zero_iff.1 (by omega)
  | (intro h0; rw [h0] at hc; exact hc rfl)
def edtT (e : Edt) : List UInt8 := if e.kind = 2 then [100, 114, 111, 112, 32] ++ e.req.name else (if e.kind = 1 then [97, 100, 100, 32] else [114, 101, 112, 108, 97, 99, 101, 32]) ++ (e.req.part ++ [32]) ++ reqT e.req
def okE (e : Edt) : Bool := if e.kind = 2 then blankB e.req && BS e.req.name else (decide (e.kind = 1) || decide (e.kind = 3)) && BS e.req.part && okR e.req
set_option maxHeartbeats 1600000 in
theorem wedit_ok (w : World) (p b o : Nat) (v : Value) (t : List UInt8) (e : Edt) (hw : WrB w p v t) (hf : PA edtR (fun b => b < p) w b o e) (hG : GP w) (hp : 10 ≤ p) (hz : szF e.req.formula ≤ 1000000) (hl : t.length ≤ 999000000) :
  FnP Tryz.prog 51 [pt p, .pointer (some ⟨b, o, none⟩)] w (fun _ w' => WAns p v t (edtT e) (okE e) w w') (WPan p v (okE e) w) := by
 obtain ⟨hb, _, hcl, d, rfl, hfit⟩ := id hf
 have hreq : PA reqR (fun b => b < p) w b (o + 1) e.req := ⟨hb, d, fun i u hu => by
  have := hcl (1 + i) u (by rw [Nat.add_comm]; exact hu)
  rw [← Nat.add_assoc] at this
  exact this, hfit⟩
 obtain ⟨_, _, hcl2, d5, rfl, _⟩ := id hreq
 have h0 : w.cell? ⟨b, o + 0, none⟩ = some (.int .i64 e.kind) := hcl 0 _ rfl
 have h10 : w.cell? ⟨b, o + 1 + 0, none⟩ = some (AM e.req.part) := hcl2 0 _ rfl
 have h11 : w.cell? ⟨b, o + 1 + 1, none⟩ = some (AM e.req.name) := hcl2 1 _ rfl
 refine Aq Tryz.func51 rfl Tryz.ntmps51 (Nat.le_of_ble_eq_true rfl) (by kernel_rfl) ?_
 repeat refine nx rfl ?_
 (refine AA (AK rfl (AF rfl (AD rfl (AG rfl (by assumption) ?_)))))
 repeat refine nx rfl ?_
 by_cases e1 : e.kind = 1
 ·have en2 : ¬ e.kind = 2 := by omega
  refine AA (Av rfl rfl (by omega) (AB (AC rfl ?_)))
  repeat refine nx rfl ?_
  refine AA (AK rfl (AK rfl (AF rfl (AD rfl (AD rfl (AG rfl (by assumption) ?_))))))
  refine AX (wname_ok w e.req.part hG.gk) rfl ?_ ?_
  rotate_left
  ·rintro ch w2 ⟨rfl, hb, rfl⟩
   repeat refine nx rfl ?_
   exact AV ⟨rfl, by simp [okE, e1, hb], v, Wrote.refl _ _ _⟩
  rintro _ w2 ⟨rfl, hnm, rfl⟩
  have hnl := (Ba hnm).2.1
  refine AT (out := [AM [97, 100, 100, 32], AM e.req.part, AM [32]]) rfl (by omega) (by kernel_rfl) (fun w3 n3 => ?_)
  refine AS (CE (parts := [[97, 100, 100, 32], e.req.part, [32]]) hw n3 (by simp) (by simp; omega)) rfl ?_
  rintro _ w4 ⟨v4, hw4, k4⟩
  repeat refine nx rfl ?_
  refine AA (AK rfl (AK rfl (AF rfl (AD rfl ?_))))
  refine AX (wreq_ok w4 p b (o + 1) v4 _ e.req hw4 (hreq.wrote k4 hw) (k4.gp hw hG hp) hp hz (by simp; omega)) rfl ?_ ?_
  rotate_left
  ·rintro ch w5 ⟨rfl, hb, v5, k5⟩
   repeat refine nx rfl ?_
   exact AV ⟨rfl, by simp [okE, e1, hb], v5, k4.trans k5⟩
  rintro _ w5 ⟨hok, v5, hw5, k5⟩
  repeat refine nx rfl ?_
  refine Az rfl ⟨by simp [okE, e1, hnm, hok], v5, ?_, k4.trans k5⟩
  have ee : t ++ edtT e = t ++ [[97, 100, 100, 32], e.req.part, [32]].flatten ++ reqT e.req := by simp [edtT, e1]
  rw [ee]
  exact hw5
 by_cases e3 : e.kind = 3
 ·have en2 : ¬ e.kind = 2 := by omega
  refine AA (AL rfl rfl (by omega) (AB (AC rfl ?_)))
  repeat first | refine nx rfl ?_ | refine nf rfl ?_
  refine AA (Av rfl rfl (by omega) (AB (AC rfl ?_)))
  repeat refine nx rfl ?_
  refine AA (AK rfl (AK rfl (AF rfl (AD rfl (AD rfl (AG rfl (by assumption) ?_))))))
  refine AX (wname_ok w e.req.part hG.gk) rfl ?_ ?_
  rotate_left
  ·rintro ch w2 ⟨rfl, hb, rfl⟩
   repeat refine nx rfl ?_
   exact AV ⟨rfl, by simp [okE, e3, hb], v, Wrote.refl _ _ _⟩
  rintro _ w2 ⟨rfl, hnm, rfl⟩
  have hnl := (Ba hnm).2.1
  refine AT (out := [AM [114, 101, 112, 108, 97, 99, 101, 32], AM e.req.part, AM [32]]) rfl (by omega) (by kernel_rfl) (fun w3 n3 => ?_)
  refine AS (CE (parts := [[114, 101, 112, 108, 97, 99, 101, 32], e.req.part, [32]]) hw n3 (by simp) (by simp; omega)) rfl ?_
  rintro _ w4 ⟨v4, hw4, k4⟩
  repeat refine nx rfl ?_
  refine AA (AK rfl (AK rfl (AF rfl (AD rfl ?_))))
  refine AX (wreq_ok w4 p b (o + 1) v4 _ e.req hw4 (hreq.wrote k4 hw) (k4.gp hw hG hp) hp hz (by simp; omega)) rfl ?_ ?_
  rotate_left
  ·rintro ch w5 ⟨rfl, hb, v5, k5⟩
   repeat refine nx rfl ?_
   exact AV ⟨rfl, by simp [okE, e3, hb], v5, k4.trans k5⟩
  rintro _ w5 ⟨hok, v5, hw5, k5⟩
  repeat refine nx rfl ?_
  refine Az rfl ⟨by simp [okE, e3, hnm, hok], v5, ?_, k4.trans k5⟩
  have ee : t ++ edtT e = t ++ [[114, 101, 112, 108, 97, 99, 101, 32], e.req.part, [32]].flatten ++ reqT e.req := by simp [edtT, e3]
  rw [ee]
  exact hw5
 by_cases e2 : e.kind = 2
 ·refine AA (AL rfl rfl (by omega) (AB (AC rfl ?_)))
  repeat first | refine nx rfl ?_ | refine nf rfl ?_
  refine AA (AL rfl rfl (by omega) (AB (AC rfl ?_)))
  repeat first | refine nx rfl ?_ | refine nf rfl ?_
  refine AA (Av rfl rfl (by omega) (AB (AC rfl ?_)))
  repeat refine nx rfl ?_
  refine AA (AK rfl (AF rfl (AD rfl ?_)))
  refine AS (wblank_ok w b (o + 1) e.req (hreq.mono fun _ _ => trivial)) rfl ?_
  rintro _ w1 ⟨rfl, rfl⟩
  refine AX (Bt w1 (blankB e.req)) rfl ?_ ?_
  rotate_left
  ·rintro ch w2 ⟨rfl, hb2, rfl⟩
   repeat refine nx rfl ?_
   exact AV ⟨rfl, by simp [okE, e2, hb2], v, Wrote.refl _ _ _⟩
  rintro _ w2 ⟨rfl, hbl, rfl⟩
  repeat refine nx rfl ?_
  refine AA (AK rfl (AK rfl (AF rfl (AD rfl (AD rfl (AG rfl (by assumption) ?_))))))
  refine AX (wname_ok w2 e.req.name hG.gk) rfl ?_ ?_
  rotate_left
  ·rintro ch w3 ⟨rfl, hb3, rfl⟩
   repeat refine nx rfl ?_
   exact AV ⟨rfl, by simp [okE, e2, hb3], v, Wrote.refl _ _ _⟩
  rintro _ w3 ⟨rfl, hnm, rfl⟩
  have hnl := (Ba hnm).2.1
  refine AT (out := [AM [100, 114, 111, 112, 32], AM e.req.name]) rfl (by omega) (by kernel_rfl) (fun w4 n4 => ?_)
  refine AS (CE (parts := [[100, 114, 111, 112, 32], e.req.name]) hw n4 (by simp) (by simp; omega)) rfl ?_
  rintro _ w5 ⟨v5, hw5, k5⟩
  repeat refine nx rfl ?_
  refine Az rfl ⟨by simp [okE, e2, hbl, hnm], v5, ?_, k5⟩
  have ee : t ++ edtT e = t ++ [[100, 114, 111, 112, 32], e.req.name].flatten := by simp [edtT, e2]
  rw [ee]
  exact hw5
 ·refine AA (AL rfl rfl (by omega) (AB (AC rfl ?_)))
  repeat first | refine nx rfl ?_ | refine nf rfl ?_
  refine AA (AL rfl rfl (by omega) (AB (AC rfl ?_)))
  repeat first | refine nx rfl ?_ | refine nf rfl ?_
  refine AA (AL rfl rfl (by omega) (AB (AC rfl ?_)))
  repeat first | refine nx rfl ?_ | refine nf rfl ?_
  refine AA ?_
  refine AX (Bt w false) rfl ?_ ?_
  ·rintro v w6 ⟨_, hb, _⟩; cases hb
  rintro ch w6 ⟨rfl, _, rfl⟩
  repeat refine nx rfl ?_
  exact AV ⟨rfl, by simp [okE, e1, e2, e3], v, Wrote.refl _ _ _⟩
end Go.Proofs.YtfcgdbmoncnibaaGreatDoor
namespace Go.Proofs.YtfcgdbmoncnibaaGreatDoor
open Go.RowKit
set_option linter.unusedVariables false
section
attribute [local semireducible] WC AU Bv BQ Bx Cr C5 Bp
variable {P : Program} {all : Array Oper} {Z : Fr → DS → List PanicEntry → World → Prop} {K : Fr → DS → World → Prop} {rest : List Oper} {f : Fr} {ds : DS} {w : World} {d : Nat} {ty : TypeId} {pos : String} {af : Array Edge}
theorem W_someneq {xt yt tx : TypeId} {vx : Value} {x : Operand} [hT : IfT P xt] (hx : ev f x = .iface tx vx) (h : AU P all Z K rest (upd f d (.bool true)) ds w) :
  AU P all Z K (⟨some d, .binOp .neq xt x (.const .nilIface) yt, ty, pos, af, none⟩ :: rest) f ds w := by
 obtain ⟨ms, h1⟩ := hT.out
 refine A3 rfl ?_ h
 have hq : (Op.equalIn Op.maxDepth xt (.iface tx vx) .nilIface).run P w = .ok false w := by
  rw [show Op.maxDepth = 9999 + 1 from rfl]
  generalize 9999 = n
  unfold Op.equalIn
  simp [run_underlying h1]
 have hy : ev f (.const .nilIface) = .nilIface := rfl
 simp [execOp, hx, hy, eqGuard, binOp, Op.equal, hq]
end
instance : IfT Tryz.prog 20 := ⟨_, Tryz.underlying20⟩
theorem trecRet (w : World) (c : Nat) : CallsDIn Fence.wide 0 Tryz.prog 72 ([] ++ [pt c] : List Value).toArray .returning w (fun e u' w' => match e with | .returned _ => u' = .returning ∧ w' = w | _ => False) := by
 refine Ct (u1 := .returning) (v0 := .nilIface) (G := fun _ w' => w' = w) (args := [pt c]) Tryz.func72 rfl Tryz.ntmps72 (by simp) (by decide) (by kernel_rfl) (by kernel_rfl) (.inl ⟨rfl, rfl, rfl⟩) ?_
 refine W_nilneq rfl ?_
 repeat first | refine nx rfl ?_ | refine nf rfl ?_
 exact Az rfl rfl
theorem trecPan (w : World) (c : Nat) (x : Value) (d : Blk w c 9 [x]) : CallsDIn Fence.wide 0 Tryz.prog 72 ([] ++ [pt c] : List Value).toArray (.panicking [{ v := .iface 186 (.agg #[]), recovered := false }]) w
   (fun en u' w' => match en with | .returned _ => u' = .panicking [{ v := .iface 186 (.agg #[]), recovered := true }] ∧ (Keep [c] w w' ∧ Blk w' c 9 [AM []]) | _ => False) := by
 refine Ct (u1 := .panicking [{ v := .iface 186 (.agg #[]), recovered := true }]) (v0 := .iface 186 (.agg #[])) (G := fun _ w' => Keep [c] w w' ∧ Blk w' c 9 [AM []]) (args := [pt c]) Tryz.func72 rfl Tryz.ntmps72 (by simp) (by decide) (by kernel_rfl) (by kernel_rfl) (.inr ⟨_, rfl, rfl, rfl⟩) ?_
 refine W_someneq rfl ?_
 repeat refine nx rfl ?_
 refine AA ?_
 refine Ak rfl rfl rfl d (by simp) (fun w2 p2 => ?_)
 repeat refine nx rfl ?_
 exact Az rfl ⟨p2.keep, p2.blk⟩
theorem text_ok (w : World) (g c : Nat) [hg : AR Tryz.prog g] (s : List UInt8) (ok : Bool) (hs : ok = true → s.length ≤ 1000000000) (hG : 10 ≤ w.heap.size)
  (hc : ∀ w1 p, Ext w w1 → w.heap.size < p → WrB w1 p (.slice none 0 0) [] → FnP Tryz.prog g [pt p, pt c] w1 (fun _ w' => WAns p (.slice none 0 0) [] s ok w1 w') (WPan p (.slice none 0 0) ok w1)) :
  Fn Tryz.prog 42 [.func (.func g) #[] #[pt c]] w (fun v w' => v = AM (if ok then s else []) ∧ Ext w w') := by
 refine fn_of_wcD Tryz.func42 rfl Tryz.ntmps42 (Nat.le_of_ble_eq_true rfl) (by kernel_rfl) ?_
 repeat refine nx rfl ?_
 refine AA ?_
 refine Aw (fun w1 n1 => ?_)
 have z1 := n1.size
 have b1 : Blk w1 w.heap.size 9 [AM []] := n1.blk
 repeat refine nx rfl ?_
 refine AA (BC rfl rfl ?_)
 refine W_defer (v1 := []) (v2 := [pt w.heap.size]) (vs := []) rfl rfl ?_
 repeat refine nx rfl ?_
 refine AA (Ac (by rfl) (by rfl) ?_)
 refine Bs (L := [.pointer none, .slice none 0 0]) rfl (fun w2 n2 => ?_)
 have z2 := n2.size
 have b2 : Blk w2 w1.heap.size 120 [.pointer none, .slice none 0 0] := n2.blk
 refine AB (AK rfl ?_)
 repeat refine nx rfl ?_
 have k2 : Ext w w2 := n1.keep.trans n2.keep
 have hw2 : WrB w2 w1.heap.size (.slice none 0 0) [] := ⟨⟨none, .inl rfl, b2⟩, ⟨by simp [Ck], .inl ⟨rfl, rfl⟩⟩, .inl rfl⟩
 have hold : ∀ {X : List Nat} {a b : World}, Keep X a b → True := fun _ => trivial
 clear hold
 have b12 := b1.keep n2.keep (by simp)
 refine AA (Cl rfl (AK rfl ?_))
 refine CD (v1 := []) (v2 := [pt c]) (vs := [pt w1.heap.size]) rfl (hc w2 w1.heap.size k2 (by omega) hw2) rfl ?_ ?_
 rotate_left
 ·rintro ch w3 ⟨rfl, hb, v3, k3⟩
  repeat refine nx rfl ?_
  have b3 := b12.keep k3.keep (by simp [Value.ownBlock]; omega)
  refine finD_pan_def (a := []) (c := [pt w.heap.size]) (trecPan w3 _ _ b3) fun w4 h4 => ?_
  obtain ⟨k4, b4⟩ := h4
  refine BZ rfl (b4.cell rfl) ?_
  refine ⟨by rw [hb]; rfl, (k2.keep k3.keep ?_).keep k4 (by simp)⟩
  intro x hx
  simp [Value.ownBlock] at hx; omega
 rintro _ w3 ⟨hb, v3, hw3, k3⟩
 repeat refine nx rfl ?_
 have b3 := b12.keep k3.keep (by simp [Value.ownBlock]; omega)
 refine AA (AK rfl (AF rfl (AD rfl ?_)))
 refine AS (bstring_ok w3 w1.heap.size v3 _ hw3 (by simp; have := hs hb; omega)) rfl ?_
 rintro _ w4 ⟨rfl, k4⟩
 have hv3 : ∀ y, v3.ownBlock = some y → w1.heap.size < y := fun y hy => (hw3.ge hy).1
 have b4 := b3.keep k4 (fun hx => by have := hv3 _ (Option.mem_toList.1 hx); omega)
 refine Ak rfl rfl rfl b4 (by simp) (fun w5 p5 => ?_)
 repeat refine nx rfl ?_
 refine finD_ret_def (a := []) (c := [pt w.heap.size]) (trecRet w5 _) fun w6 k6 => ?_
 subst k6
 refine BZ rfl (p5.blk.cell rfl) ?_
 refine ⟨by rw [hb]; rfl, ((k2.keep k3.keep ?_).keep k4 ?_).keep p5.keep (by simp)⟩
 ·intro x hx
  simp [Value.ownBlock] at hx; omega
 ·intro x hx
  have := hv3 x (Option.mem_toList.1 hx); omega
theorem wf_ans {w : World} {p b o : Nat} {v : Value} {t : List UInt8} {f : Fml} (hw : WrB w p v t) (hf : PF (fun b => b < p) w b o f) (hG : GP w) (hp : 10 ≤ p) (hz : szF f ≤ 1000000) (hl : t.length ≤ 1000000000) :
  FnP Tryz.prog 44 [pt p, .pointer (some ⟨b, o, none⟩)] w (fun _ w' => WAns p v t (prF 0 f) (okF f) w w') (WPan p v (okF f) w) := wformula_ok w p b o v t f hw hf hG hp hz hl
theorem print_F (w : World) (x : Fml) (c : List Value) (hx : (fmlR).fits BH w c x) (hG : GP w) (hz : szF x ≤ 1000000) (hN : 10 ≤ w.heap.size) (hl : (okF x) = true → (prF 0 x).length ≤ 1000000000) :
  Fn Tryz.prog 14 [.agg c.toArray] w (fun v w' => v = AM (if okF x then prF 0 x else []) ∧ Ext w w') := by
 refine Ad Tryz.func14 rfl Tryz.ntmps14 (Nat.le_of_ble_eq_true rfl) (by kernel_rfl) ?_
 repeat refine nx rfl ?_
 (refine AA ?_; refine Bs (L := c) rfl (fun w1 n1 => ?_))
 refine AB (AY rfl ?_)
 repeat refine nx rfl ?_
 have z1 := n1.size
 have k1 := n1.keep
 have hx1 := (fmlR).ext ((fmlR).lt hx) k1
 have b1 := n1.blk
 refine AA (BC rfl rfl ?_)
 refine AS (text_ok w1 43 w.heap.size (prF 0 x) (okF x) hl (by omega) ?_) rfl ?_
 ·intro w2 p k2 hp hw2
  have hG2 := (hG.ext k1).ext k2
  have hgp : 10 ≤ p := by omega
  refine Aq Tryz.func43 rfl Tryz.ntmps43 (Nat.le_of_ble_eq_true rfl) (by kernel_rfl) ?_
  repeat refine nx rfl ?_
  refine AA (AK rfl ?_)
  refine AX (wf_ans hw2 ⟨by omega, c, hx1.1, (n1.blk.keep k2 (by simp)).cells, (hx1.2.ext k2).mono fun b hb => Nat.lt_trans hb.2 (by omega)⟩ hG2 hgp hz (by simp)) rfl ?_ ?_
  rotate_left
  ·rintro ch w3 h3
   repeat refine nx rfl ?_
   exact AV h3
  rintro _ w3 h3
  repeat refine nx rfl ?_
  exact Az rfl h3
 rintro _ w2 ⟨rfl, k2⟩
 refine AB (AY rfl ?_)
 repeat refine nx rfl ?_
 exact AP rfl ⟨rfl, k1.trans k2⟩
theorem print_S (w : World) (x : Spc) (c : List Value) (hx : (spcR).fits BH w c x) (hG : GP w) (hz : szS x ≤ 1000000) (hN : 10 ≤ w.heap.size) (hl : (okSpc x) = true → (spcT x).length ≤ 1000000000) :
  Fn Tryz.prog 16 [.agg c.toArray] w (fun v w' => v = AM (if okSpc x then spcT x else []) ∧ Ext w w') := by
 refine Ad Tryz.func16 rfl Tryz.ntmps16 (Nat.le_of_ble_eq_true rfl) (by kernel_rfl) ?_
 repeat refine nx rfl ?_
 (refine AA ?_; refine Bs (L := c) rfl (fun w1 n1 => ?_))
 refine AB (AY rfl ?_)
 repeat refine nx rfl ?_
 have z1 := n1.size
 have k1 := n1.keep
 have hx1 := (spcR).ext ((spcR).lt hx) k1
 have b1 := n1.blk
 refine AA (BC rfl rfl ?_)
 refine AS (text_ok w1 46 w.heap.size (spcT x) (okSpc x) hl (by omega) ?_) rfl ?_
 ·intro w2 p k2 hp hw2
  have hG2 := (hG.ext k1).ext k2
  have hgp : 10 ≤ p := by omega
  refine Aq Tryz.func46 rfl Tryz.ntmps46 (Nat.le_of_ble_eq_true rfl) (by kernel_rfl) ?_
  repeat refine nx rfl ?_
  refine AA (AK rfl ?_)
  refine AX (wspec_ok w2 p _ 0 _ [] x hw2 ⟨by omega, c, (n1.blk.keep k2 (by simp)).cells, spcR.mono (spcR.ext hx1 k2) fun b hb => Nat.lt_trans hb.2 (by omega)⟩ hG2 hgp hz (by simp)) rfl ?_ ?_
  rotate_left
  ·rintro ch w3 h3
   repeat refine nx rfl ?_
   exact AV h3
  rintro _ w3 h3
  repeat refine nx rfl ?_
  exact Az rfl h3
 rintro _ w2 ⟨rfl, k2⟩
 refine AB (AY rfl ?_)
 repeat refine nx rfl ?_
 exact AP rfl ⟨rfl, k1.trans k2⟩
theorem print_D (w : World) (x : Edt) (c : List Value) (hx : (edtR).fits BH w c x) (hG : GP w) (hz : szF x.req.formula ≤ 1000000) (hN : 10 ≤ w.heap.size) (hl : (okE x) = true → (edtT x).length ≤ 1000000000) :
  Fn Tryz.prog 18 [.agg c.toArray] w (fun v w' => v = AM (if okE x then edtT x else []) ∧ Ext w w') := by
 refine Ad Tryz.func18 rfl Tryz.ntmps18 (Nat.le_of_ble_eq_true rfl) (by kernel_rfl) ?_
 repeat refine nx rfl ?_
 (refine AA ?_; refine Bs (L := c) rfl (fun w1 n1 => ?_))
 refine AB (AY rfl ?_)
 repeat refine nx rfl ?_
 have z1 := n1.size
 have k1 := n1.keep
 have hx1 := (edtR).ext ((edtR).lt hx) k1
 have b1 := n1.blk
 refine AA (BC rfl rfl ?_)
 refine AS (text_ok w1 50 w.heap.size (edtT x) (okE x) hl (by omega) ?_) rfl ?_
 ·intro w2 p k2 hp hw2
  have hG2 := (hG.ext k1).ext k2
  have hgp : 10 ≤ p := by omega
  refine Aq Tryz.func50 rfl Tryz.ntmps50 (Nat.le_of_ble_eq_true rfl) (by kernel_rfl) ?_
  repeat refine nx rfl ?_
  refine AA (AK rfl ?_)
  refine AX (wedit_ok w2 p _ 0 _ [] x hw2 ⟨by omega, c, (n1.blk.keep k2 (by simp)).cells, edtR.mono (edtR.ext hx1 k2) fun b hb => Nat.lt_trans hb.2 (by omega)⟩ hG2 hgp hz (by simp)) rfl ?_ ?_
  rotate_left
  ·rintro ch w3 h3
   repeat refine nx rfl ?_
   exact AV h3
  rintro _ w3 h3
  repeat refine nx rfl ?_
  exact Az rfl h3
 rintro _ w2 ⟨rfl, k2⟩
 refine AB (AY rfl ?_)
 repeat refine nx rfl ?_
 exact AP rfl ⟨rfl, k1.trans k2⟩
end Go.Proofs.YtfcgdbmoncnibaaGreatDoor
