/- The parser: specifications, edits. The reference: formulas compared. The reference: formulas built, requirements compared. The reference: requirements, signals, specifications, edits compared. The parser: tables, tokens of a text, the deferred calls. The parser: the deferred calls. Conditions: none. -/
import Derived.Test.YtfcgdbmoncnibaaGreatDoorZD6

namespace Go.Proofs.YtfcgdbmoncnibaaGreatDoor
open Go.RowKit
set_option linter.unusedVariables false
variable {mk : Prop} [MK mk]
theorem A5 {l : List Value} (h : l.all (fun v => v.oneCell') = true) : oneC l := fun u hu => List.all_eq_true.1 h u hu
def spcR : Rp Spc where
 fits ok w c x := ∃ sv rv, c = [sv, rv] ∧ SlAt sgnR ok w sv x.sigs ∧ SlAt reqR ok w rv x.reqs
 size := 2
 len h := by obtain ⟨_, _, rfl, _⟩ := h; rfl
 one h := by
  obtain ⟨_, _, rfl, ⟨_, _, _, rfl, _⟩, ⟨_, _, _, rfl, _⟩⟩ := h
  intro u hu; simp at hu; rcases hu with rfl | rfl <;> rfl
 keep h k hX := by
  obtain ⟨sv, rv, e, ⟨a, c, L, e1, h1, h2⟩, ⟨b, d, M, e2, h3, h4⟩⟩ := h
  exact ⟨sv, rv, e, ⟨a, c, L, e1, h1.keep k hX, h2.keep k hX⟩, ⟨b, d, M, e2, h3.keep k hX, h4.keep k hX⟩⟩
 lt h := by
  obtain ⟨sv, rv, e, ⟨a, c, L, e1, h1, h2⟩, ⟨b, d, M, e2, h3, h4⟩⟩ := h
  exact ⟨sv, rv, e, ⟨a, c, L, e1, Sl_ltR (by show 0 < 3; decide) h1 h2, h2.lt⟩, ⟨b, d, M, e2, Sl_ltR (by show 0 < 8; decide) h3 h4, h4.lt⟩⟩
 mono h hk := by
  obtain ⟨sv, rv, e, ⟨a, c, L, e1, h1, h2⟩, ⟨b, d, M, e2, h3, h4⟩⟩ := h
  exact ⟨sv, rv, e, ⟨a, c, L, e1, h1.mono hk, h2.mono hk⟩, ⟨b, d, M, e2, h3.mono hk, h4.mono hk⟩⟩
def edtR : Rp Edt where
 fits ok w c x := ∃ d, c = .int .i64 x.kind :: d ∧ reqR.fits ok w d x.req
 size := 9
 len h := by obtain ⟨d, rfl, h⟩ := h; have := reqR.len h; simp [this]; rfl
 one h := by
  obtain ⟨d, rfl, h⟩ := h
  have := reqR.one h
  intro u hu
  rcases List.mem_cons.1 hu with rfl | hu
  ·rfl
  ·exact this u hu
 keep h k hX := by obtain ⟨d, e, h⟩ := h; exact ⟨d, e, reqR.keep h k hX⟩
 lt h := by obtain ⟨d, e, h⟩ := h; exact ⟨d, e, reqR.lt h⟩
 mono h hk := by obtain ⟨d, e, h⟩ := h; exact ⟨d, e, reqR.mono h hk⟩
def fmlR : Rp Fml where
 fits ok w c x := c.length = 5 ∧ FAt ok w (.agg c.toArray) x
 size := 5
 len h := h.1
 one h := by
  obtain ⟨c', e, _, h1⟩ := h.2.cells
  simp only [Value.agg.injEq] at e
  have e2 := congrArg Array.toList e
  simp only [List.toList_toArray] at e2
  exact e2 ▸ h1
 keep h k hX := ⟨h.1, h.2.keep k hX⟩
 lt h := ⟨h.1, h.2.lt⟩
 mono h hk := ⟨h.1, h.2.mono hk⟩
theorem sees2_inv {s t : List UInt8} {ts ts' : List Tok} {b : Bool} (h : Run (sees2 s t) ts (.ok (b, ts'))) : ts' = ts := by
 cases h.det (C5 s t ts); rfl
theorem lines_cnt : ∀ (n : Nat) (t t' : List Tok) (l : List Rqm), t.length ≤ n → Run (body .lines) t (.ok (l, t')) → l.length + t'.length ≤ t.length := by
 intro n
 induction n with
 | zero =>
  intro t t' l hn h
  obtain ⟨b, t1, r1, h⟩ := Ct h
  have e := sees2_inv r1
  subst e
  cases b with
  | true =>
   obtain ⟨r, t2, r2, h⟩ := call_ok h
   have := line_less r2; omega
  | false => cases h.det (Run.ret _ _); simp
 | succ n ih =>
  intro t t' l hn h
  obtain ⟨b, t1, r1, h⟩ := Ct h
  have e := sees2_inv r1
  subst e
  cases b with
  | true =>
   obtain ⟨r, t2, r2, h⟩ := call_ok h
   obtain ⟨m, t3, r3, h⟩ := call_ok h
   have h2 := line_less r2
   have h3 := ih t2 t3 m (by omega) r3
   cases h.det (Run.ret _ _)
   simp; omega
  | false => cases h.det (Run.ret _ _); simp
theorem part_cnt {t t' : List Tok} {l : List Rqm} (h : Run (body .part) t (.ok (l, t'))) : l.length + t'.length < t.length := by
 obtain ⟨_, t1, r1, h⟩ := Ct h
 obtain ⟨_, t2, r2, h⟩ := Ct h
 obtain ⟨_, t3, r3, h⟩ := Ct h
 obtain ⟨m, t4, r4, h⟩ := call_ok h
 obtain ⟨_, t5, r5, h⟩ := Ct h
 cases h.det (Run.ret _ _)
 have := expect_inv r1; have := r2.le; have := r3.le; have := lines_cnt _ _ _ _ (Nat.le_refl _) r4; have := r5.le
 simp; omega
theorem parts_cnt : ∀ (n : Nat) (t t' : List Tok) (l : List (List Rqm)), t.length ≤ n → Run (body .parts) t (.ok (l, t')) → l.flatten.length + t'.length ≤ t.length := by
 intro n
 induction n with
 | zero =>
  intro t t' l hn h
  obtain ⟨b, t1, r1, h⟩ := Ct h
  have e := sees2_inv r1
  subst e
  cases b with
  | true =>
   obtain ⟨r, t2, r2, h⟩ := call_ok h
   have := part_less r2; omega
  | false => cases h.det (Run.ret _ _); simp
 | succ n ih =>
  intro t t' l hn h
  obtain ⟨b, t1, r1, h⟩ := Ct h
  have e := sees2_inv r1
  subst e
  cases b with
  | true =>
   obtain ⟨r, t2, r2, h⟩ := call_ok h
   obtain ⟨m, t3, r3, h⟩ := call_ok h
   have h2 := part_cnt r2
   have h3 := ih t2 t3 m (by omega) r3
   cases h.det (Run.ret _ _)
   simp only [List.flatten_cons, List.length_append]; omega
  | false => cases h.det (Run.ret _ _); simp
theorem Dm (n : Nat) : ∀ (L : List (List Value)) (k j : Nat) (c : List Value) (v : Value), (∀ c ∈ L, c.length = n) → L[k]? = some c → c[j]? = some v → L.flatten[k * n + j]? = some v
 | [], k, j, c, v, _, h, _ => by simp at h
 | d :: L, 0, j, c, v, h5, h, hv => by
  simp at h; subst h
  rw [List.flatten_cons, Nat.zero_mul, Nat.zero_add, List.getElem?_append_left (List.getElem?_eq_some_iff.1 hv).1]; exact hv
 | d :: L, k + 1, j, c, v, h5, h, hv => by
  have hd := h5 d (by simp)
  rw [List.flatten_cons, List.getElem?_append_right (by rw [hd, Nat.succ_mul]; omega), hd, show (k + 1) * n + j - n = k * n + j by rw [Nat.succ_mul]; omega]
  exact Dm n L k j c v (fun c hc => h5 c (by simp [hc])) (by simpa using h) hv
theorem spec_ok (E : Env) (N : Nat) : ItemR spcR aggV E N 57 (body .spec) := by
 intro w ts h hN
 have hsl := h.st.slt
 unfold PDo
 refine Ar Tryz.func57 rfl Tryz.ntmps57 (Nat.le_of_ble_eq_true rfl) (by kernel_rfl) ?_
 repeat refine nx rfl ?_
 (refine AA ?_; refine Bh (L := [pt E.s]) rfl (fun w1 n1 => ?_))
 refine Av (fun w2 n2 => ?_)
 have z1 := n1.size
 have z2 := n2.size
 have x2 : Blk w2 w.heap.size 89 [pt E.s] := n1.blk.keep n2.keep (by simp)
 have b2 : Blk w2 w1.heap.size 28 [.slice none 0 0, .slice none 0 0] := n2.blk
 have h2 := (h.ext n1.keep).ext n2.keep
 have k2 : Keep [E.s] w w2 := (n1.keep.trans n2.keep).any
 repeat refine nx rfl ?_
 refine AA (BI rfl rfl (AC (Cr rfl ?_)))
 repeat refine nx rfl ?_
 (refine AA (Cr rfl (AF rfl (Blk.cell (by assumption) (by rfl)) ?_)) <;> refine BI rfl rfl ?_)
 refine Ac (whileSgn_ok E ts.length _ _ [] [pt w.heap.size] _ _ _ whileP_sig w2 ts (declared_ok E w2 _ x2 (by omega)) (signal_ok E _) h2 (Nat.le_refl _)) rfl ?_ ?_
 rotate_left
 ·rintro ch wq ⟨kq, lq, rq, rfl⟩
  repeat refine nx rfl ?_
  exact AY ⟨k2.trans kq (by simp), lq, Run.callE rq, rfl⟩
 rintro sv w3 ⟨k3, l, t3, r3, q3, L, o3, F3⟩
 have h3 := h2.next k3 q3
 have k13 := k2.trans k3 (by simp)
 have z3 := k3.size
 have x3 := x2.keep k3 (by simp <;> omega)
 have b3 := b2.keep k3 (by simp <;> omega)
 have S3 := BJ (ok := fun b => w2.heap.size ≤ b ∧ b < w3.heap.size) o3 (fun g hg => by have := Br o3 hg; omega)
 obtain ⟨sa, sc, rfl, _⟩ := id S3
 refine Af (by rfl) (by rfl) ?_
 refine A7 (cs := [.slice sa l.length sc, .slice none 0 0]) rfl rfl (by rfl) (by intro u hu; simp at hu; rcases hu with rfl | rfl <;> rfl) (fun w4 n4 => ?_)
 have h4 := h3.ext n4.keep
 have k14 := k13.ext n4.keep
 have z4 := n4.size
 have x4 := x3.keep n4.keep (by simp)
 have b4 := b3.keep n4.keep (by simp)
 have e4 := n4.blk
 have S4 := S3.ext n4.keep
 have F4 := F3.ext n4.keep
 repeat refine nx rfl ?_
 (refine AA (AF rfl (Blk.cell (by assumption) (by rfl)) ?_) <;> refine BI rfl rfl (AF rfl (Blk.cell (by assumption) (by rfl)) ?_) <;> refine BI rfl rfl ?_)
 refine Ac (whileReqs_ok E t3.length _ _ [pt E.s] [] _ _ _ whileP_parts w4 t3 (opened_ok E w4) (part_ok E _) h4 (Nat.le_refl _)) rfl ?_ ?_
 rotate_left
 ·rintro ch wq ⟨kq, lq, rq, rfl⟩
  repeat refine nx rfl ?_
  exact AY ⟨k14.trans kq (by simp), lq, Run.call r3 (Run.callE rq), rfl⟩
 rintro pv w5 ⟨k5, m, t5, r5, q5, M, o5, F5⟩
 have h5 := h4.next k5 q5
 have k15 := k14.trans k5 (by simp)
 have z5 := k5.size
 have b5 := b4.keep k5 (by simp <;> omega)
 have e5 := e4.keep k5 (by simp <;> omega)
 have S5 := S4.keep k5 (fun b hb => by simp; omega)
 have P5 := BJ (ok := fun b => w4.heap.size ≤ b ∧ b < w5.heap.size) o5 (fun g hg => Br o5 hg)
 have F5' : RsAt reqsR (fun b => w4.heap.size ≤ b ∧ b < w5.heap.size) w5 M m := F5.lt.mono fun b hb => ⟨hb.1.1, hb.2⟩
 obtain ⟨pa, pc, rfl, _⟩ := id P5
 have hts := h.st.cnt
 have hc3 := (show t3 <:+ ts from Run.suffix r3).length_le
 have hcnt := parts_cnt _ _ _ _ (Nat.le_refl _) r5
 have hmm : m.length ≤ 9223372036854775807 := by
  obtain ⟨_, _, hv, g1, g2, _⟩ := id P5
  cases hv; omega
 refine Ap rfl (AH rfl ?_)
 repeat refine nx rfl ?_
 refine BN (α := Nat × Value × List (List Value)) (fun x => [(2, pt w1.heap.size), (4, pt w3.heap.size), (17, .slice pa m.length pc), (18, .int .i64 (m.length : Int)), (19, .int .i64 (x.1 : Int))])
  (fun x W => x.1 ≤ m.length ∧ Keep [E.s] w W ∧ PSt W E t5 ∧ w5.heap.size ≤ W.heap.size ∧ Blk W w1.heap.size 28 [.slice none 0 0, .slice none 0 0] ∧ Blk W w3.heap.size 28 [.slice sa l.length sc, x.2.1] ∧
   Sl (fun b => w2.heap.size ≤ b ∧ b < w3.heap.size) W (.slice sa l.length sc) l.length L.flatten ∧ Sl (fun b => w4.heap.size ≤ b ∧ b < w5.heap.size) W (.slice pa m.length pc) m.length M.flatten ∧ RsAt reqsR (fun b => w4.heap.size ≤ b ∧ b < w5.heap.size) W M m ∧
   W.ownsRow w5.heap.size 30 8 x.2.1 (m.take x.1).flatten.length x.2.2.flatten ∧ RsAt reqR (fun b => w4.heap.size ≤ b ∧ b < w5.heap.size) W x.2.2 (m.take x.1).flatten) (fun x => m.length - x.1) (0, .slice none 0 0, []) ⟨rfl, rfl, rfl, rfl, rfl, trivial⟩
  ⟨by simp, k15, q5, Nat.le_refl _, b5, e5, S5, P5, F5', ⟨by simp, .inl ⟨rfl, rfl⟩⟩, RsAt.nil⟩ ?_
 rintro ⟨k, rv, Q⟩ w6 f6 ⟨hk, k6, q6, z6, b6, e6, S6, P6, F6, o6, G6⟩
 simp only at hk o6 G6 e6 ⊢
 repeat refine nx rfl ?_
 have hb1 : w1.heap.size < w3.heap.size := by omega
 by_cases hlt : k < m.length
 ·obtain ⟨c, hc⟩ : ∃ c, M[k]? = some c := ⟨_, List.getElem?_eq_getElem (by rw [F6.1]; exact hlt)⟩
  obtain ⟨rs, hrs⟩ : ∃ rs, m[k]? = some rs := ⟨_, List.getElem?_eq_getElem hlt⟩
  obtain ⟨pv, rfl, va, vc, V, rfl, SV, FV⟩ := F6.2 k c rs hc hrs
  obtain ⟨b, o, rfl, hb, hcell⟩ : ∃ b o, pa = some ⟨b, o, none⟩ ∧ (w4.heap.size ≤ b ∧ b < w5.heap.size) ∧ w6.cell? ⟨b, o + k, none⟩ = some (.slice va rs.length vc) := by
   obtain ⟨a', cap, hv, g1, g2, g3, g4⟩ := id P6
   cases hv
   obtain ⟨b, o, rfl, hb, hcc⟩ := g4.resolve_left (by omega)
   refine ⟨b, o, rfl, hb, hcc k _ ?_⟩
   have := Dm 1 M k 0 _ _ F6.len hc rfl
   simpa using this
  have etk : m.take (k + 1) = m.take k ++ [rs] := by rw [List.take_add_one, hrs]; rfl
  have hcr : (m.take (k + 1)).flatten.length ≤ m.flatten.length := by
   have e1 := congrArg (fun x => x.flatten.length) (List.take_append_drop (k + 1) m)
   simp only [List.flatten_append, List.length_append] at e1; omega
  have etl : (m.take (k + 1)).flatten.length = (m.take k).flatten.length + rs.length := by rw [etk]; simp
  obtain ⟨ra, rc, rfl⟩ : ∃ ra rc, rv = .slice ra (m.take k).flatten.length rc := by
   rcases o6.2 with ⟨rfl, h0⟩ | ⟨g, cap, cur, rfl, _⟩
   ·exact ⟨none, 0, by rw [h0]⟩
   ·exact ⟨_, _, rfl⟩
  have hown : ∀ x ∈ (Value.slice ra (m.take k).flatten.length rc).ownBlock.toList, w5.heap.size ≤ x := fun x hx => (Br o6 (Option.mem_toList.1 hx)).1
  refine AA (BG rfl rfl (by omega) ?_)
  repeat refine nx rfl ?_
  (refine AA (W_idx1 rfl rfl rfl (by omega) (AF rfl (by assumption) ?_)) <;> refine AC (Aa rfl ?_))
  repeat refine nx rfl ?_
  (refine AA (AD rfl (AF rfl (Blk.cell (by assumption) (by rfl)) ?_)) <;> refine Aa rfl ?_)
  refine CU (v := .slice ra (m.take k).flatten.length rc) (sv := .slice va rs.length vc) rfl rfl o6 SV (by omega) rfl FV.flat FV.oneC (by omega) (by omega) (by omega) (fun v7 w7 a7 => ?_)
  have o7 := a7.own
  have z7 := a7.keep.size
  have hkp : ∀ b, b < w5.heap.size → b ∉ (Value.slice ra (m.take k).flatten.length rc).ownBlock.toList := fun b hb hx => by have := hown b hx; omega
  have e7 := e6.keep a7.keep (hkp _ (by omega))
  have b7 := b6.keep a7.keep (hkp _ (by omega))
  have S7 := S6.keep a7.keep (fun b hb => hkp b (by omega))
  have P7 := P6.keep a7.keep (fun b hb => hkp b hb.2)
  have F7 := F6.keep a7.keep (fun b hb => hkp b hb.2)
  have G7 := (G6.app FV).keep a7.keep (fun b hb => hkp b hb.2)
  have k7 := k6.trans a7.keep (fun x hx hlt => by have := hown x hx; omega)
  have q7 := q6.keep a7.keep (fun x hx => by have := hown x hx; omega)
  obtain ⟨va7, vc7, rfl⟩ : ∃ va7 vc7, v7 = .slice va7 ((m.take k).flatten.length + rs.length) vc7 := by
   rcases o7.2 with ⟨rfl, h0⟩ | ⟨g, cap, cur, rfl, _⟩
   ·exact ⟨none, 0, by rw [h0]⟩
   ·exact ⟨_, _, rfl⟩
  refine AD rfl ?_
  refine Ah rfl rfl rfl e7 (by simp) (fun w8 p8 => ?_)
  have z8 := p8.size
  have hk8 : ∀ b, b ≠ w3.heap.size → b ∉ [w3.heap.size] := fun b hb hx => hb (by simpa using hx)
  repeat refine nx rfl ?_
  (refine AA (BU rfl rfl (by first | exact Ao (by omega) (by omega) | exact Au (by omega) (by omega) | exact An (by omega) (by omega)) ?_) <;> refine AH rfl ?_)
  repeat refine nx rfl ?_
  refine ⟨(k + 1, .slice va7 ((m.take k).flatten.length + rs.length) vc7, Q ++ V), ⟨rfl, ⟨rfl, rfl, rfl, rfl, ?_, trivial⟩, ⟨by simp only; omega, k7.trans p8.keep (by simp <;> omega), q7.keep p8.keep (by simp <;> omega), by omega, b7.keep p8.keep (hk8 _ (by omega)), p8.blk, S7.keep p8.keep (fun b hb => hk8 _ (by omega)), P7.keep p8.keep (fun b hb => hk8 _ (by omega)), F7.keep p8.keep (fun b hb => hk8 _ (by omega)), ?_, ?_⟩⟩, by simp only; omega⟩
  ·show Value.int .i64 ((k : Int) + 1) = _
   rw [Int.natCast_add]; rfl
  ·have := A8 o7 p8.keep (fun g hg => hk8 g (by have := Br o7 hg; omega))
   simp only [etl, List.flatten_append]
   exact this
  ·simp only [etk, List.flatten_append]
   have := G7.keep p8.keep (fun b hb => hk8 _ (by omega))
   simpa using this
 ·obtain rfl : k = m.length := by omega
  rw [List.take_length] at o6 G6
  refine AA (BH rfl rfl (by omega) ?_)
  repeat first | refine nx rfl ?_ | refine nf rfl ?_
  have hr6 := BJ (ok := fresh w) o6 (fun g hg => by have := Br o6 hg; simp only [fresh]; omega)
  obtain ⟨ra, rc, rfl, _⟩ := id hr6
  refine AA (AV rfl e6 rfl ?_)
  refine AZ (cs := [.slice sa l.length sc, .slice ra m.flatten.length rc]) rfl rfl rfl (by intro u hu; simp at hu; rcases hu with rfl | rfl <;> rfl) b6 (by simp) (fun w7 p7 => ?_)
  repeat refine nx rfl ?_
  have b7 : Blk w7 w1.heap.size 28 [.slice sa l.length sc, .slice ra m.flatten.length rc] := p7.blk
  have hk7 : ∀ b, b ≠ w1.heap.size → b ∉ [w1.heap.size] := fun b hb hx => hb (by simpa using hx)
  have F6s : RsAt sgnR (fun b => b ≠ w1.heap.size ∧ fresh w b) w6 L l := ⟨F4.1, fun i c a hc ha => F4.2 i c a hc ha⟩
  have R7 := BJ (ok := fun b => b ≠ w1.heap.size ∧ fresh w b) o6 (fun g hg => by have := Br o6 hg; simp only [fresh]; omega)
  refine A6 rfl rfl rfl b7.cells ⟨k6.trans p7.keep (by simp <;> omega), ⟨l, m.flatten⟩, t5, Run.call r3 (Run.call r5 (Run.ret _ _)), q6.keep p7.keep (by simp <;> omega), _, rfl, _, _, rfl, ⟨_, _, L, rfl, ?_, ?_⟩, ⟨_, _, Q, rfl, ?_, ?_⟩⟩
  ·exact (S6.mono (ok' := fun b => b ≠ w1.heap.size ∧ fresh w b) (fun b hb => by simp only [fresh]; omega)).keep p7.keep (fun b hb => hk7 b hb.1) |>.mono fun b hb => hb.2
  ·exact (F6s.keep p7.keep (fun b hb => hk7 b hb.1)).mono fun b hb => hb.2
  ·exact (R7.keep p7.keep (fun b hb => hk7 b hb.1)).mono fun b hb => hb.2
  ·exact ((G6.mono (ok' := fun b => b ≠ w1.heap.size ∧ fresh w b) (fun b hb => by simp only [fresh]; omega)).keep p7.keep (fun b hb => hk7 b hb.1)).mono fun b hb => hb.2
theorem edit_ok (E : Env) (N : Nat) : ItemR edtR aggV E N 67 (body .edit) := by
 intro w ts h hN
 have hsl := h.st.slt
 unfold PDo
 refine Ar Tryz.func67 rfl Tryz.ntmps67 (Nat.le_of_ble_eq_true rfl) (by kernel_rfl) ?_
 repeat refine nx rfl ?_
 refine AA ?_
 refine Av (fun w1 n1 => ?_)
 have b1 : Blk w1 w.heap.size 32 (.int .i64 0 :: zero8) := n1.blk
 have z1 := n1.size
 have h1 := h.ext n1.keep
 have k1 : Keep [E.s] w w1 := n1.keep.any
 repeat refine nx rfl ?_
 refine AA (AO rfl ?_)
 refine AS (Bs E w1 ts [100, 114, 111, 112] h1.st) rfl ?_
 rintro _ w2 ⟨k2, i, t2, rfl, r2, q2⟩
 have h2 := h1.next k2 q2
 have b2 := b1.keep k2 (by simp <;> omega)
 have k12 := k1.trans k2 (by simp)
 have z2 := k2.size
 refine AJ ?_
 cases i with
 | true =>
  repeat refine nx rfl ?_
  refine AA (AO rfl ?_)
  refine Ac (pname_ok E w2 t2 h2.st h2.gk) rfl ?_ ?_
  rotate_left
  ·rintro ch wq ⟨kq, lq, rq, rfl⟩
   repeat refine nx rfl ?_
   exact AY ⟨k12.trans kq (by simp), lq, r2.bind (Run.bindE rq), rfl⟩
  rintro v w3 ⟨k3, s, t3, r3, q3, rfl, hs⟩
  have b3 := b2.keep k3 (by simp <;> omega)
  (refine Af (by rfl) (by rfl) ?_ <;> refine Af (by rfl) (by rfl) ?_)
  refine AZ (cs := [.int .i64 2, AK [], AK s, .int .i64 0, .int .i64 0, AK [], .int .i64 0, .int .i64 0, .slice none 0 0]) rfl rfl rfl (A5 rfl) b3 (by simp [zero8]) (fun w4 p4 => ?_)
  repeat refine nx rfl ?_
  have b4 : Blk w4 w.heap.size 32 [.int .i64 2, AK [], AK s, .int .i64 0, .int .i64 0, AK [], .int .i64 0, .int .i64 0, .slice none 0 0] := p4.blk
  exact A6 rfl rfl rfl b4.cells ⟨(k12.trans k3 (by simp)).trans p4.keep (by simp <;> omega), ⟨2, ⟨[], s, 0, DU⟩⟩, t3, r2.bind (r3.bind (Run.ret _ _)), q3.keep p4.keep (by simp <;> omega), _, rfl, _, rfl, _, rfl, rfl, FAt.leaf _ _ _ _ _ _⟩
 | false =>
 repeat first | refine nx rfl ?_ | refine nf rfl ?_
 refine AA (Af (by rfl) (by rfl) ?_)
 refine A7 (cs := [.int .i64 1, AK [], AK [], .int .i64 0, .int .i64 0, AK [], .int .i64 0, .int .i64 0, .slice none 0 0]) rfl rfl (by rfl) (A5 rfl) (fun w3 n3 => ?_)
 have h3 := h2.ext n3.keep
 have b3 := b2.keep n3.keep (by simp)
 have z3 := n3.size
 have e3 := n3.blk
 have k13 := k12.ext n3.keep
 repeat refine nx rfl ?_
 refine AA (AO rfl ?_)
 refine AS (Bs E w3 t2 [97, 100, 100] h3.st) rfl ?_
 rintro _ w4 ⟨k4, j, t4, rfl, r4, q4⟩
 have h4 := h3.next k4 q4
 have b4 := b3.keep k4 (by simp <;> omega)
 have e4 := e3.keep k4 (by simp <;> omega)
 have k14 := k13.trans k4 (by simp)
 have z4 := k4.size
 refine BB rfl ?_
 repeat refine nx rfl ?_
 refine CE (α := List Tok × Int) (fun _ => [(0, pt E.s), (2, pt w.heap.size), (3, pt w2.heap.size)])
  (fun x W => Run (if j then .ret 1 else (B5 [114, 101, 112, 108, 97, 99, 101]).bind fun _ => .ret 3 : G Int) t4 (.ok (x.2, x.1)) ∧ PW W E x.1 ∧ Keep [E.s] w W ∧ w3.heap.size ≤ W.heap.size ∧ Blk W w.heap.size 32 (.int .i64 0 :: zero8) ∧ Blk W w2.heap.size 32 (.int .i64 x.2 :: zero8)) ?_ ?_
 ·cases j with
  | true =>
   repeat first | refine nx rfl ?_ | refine nf rfl ?_
   exact Am (t4, 1) ⟨rfl, rfl, rfl, trivial⟩ ⟨Run.ret _ _, h4, k14, by omega, b4, e4⟩
  | false =>
   repeat refine nx rfl ?_
   refine AA (AO rfl ?_)
   refine Ac (Cg E w4 t4 [114, 101, 112, 108, 97, 99, 101] h4.st) rfl ?_ ?_
   rotate_left
   ·rintro ch wq ⟨kq, lq, rq, rfl⟩
    repeat refine nx rfl ?_
    exact AY ⟨k14.trans kq (by simp), lq, r2.bind (r4.bind (Run.bindE (Run.bindE rq))), rfl⟩
   rintro v w5 ⟨k5, _, t5, r5, q5, rfl⟩
   have e5 := e4.keep k5 (by simp <;> omega)
   have z5 := k5.size
   repeat refine nx rfl ?_
   refine AA (AD rfl ?_)
   refine Ah rfl rfl rfl e5 (by simp) (fun w6 p6 => ?_)
   have z6 := p6.size
   repeat refine nx rfl ?_
   exact Am (t5, 3) ⟨rfl, rfl, rfl, trivial⟩ ⟨r5.bind (Run.ret _ _), (h4.next k5 q5).keep p6.keep (by simp <;> omega), (k14.trans k5 (by simp)).trans p6.keep (by simp <;> omega), by omega, (b4.keep k5 (by simp <;> omega)).keep p6.keep (by simp <;> omega), p6.blk⟩
 rintro ⟨t5, kd⟩ w5 f5 ⟨r5, h5, k15, z5, b5, e5⟩
 simp only at r5 h5 e5
 repeat refine nx rfl ?_
 refine AA (AO rfl ?_)
 refine Ac (pname_ok E w5 t5 h5.st h5.gk) rfl ?_ ?_
 rotate_left
 ·rintro ch wq ⟨kq, lq, rq, rfl⟩
  repeat refine nx rfl ?_
  exact AY ⟨k15.trans kq (by simp), lq, r2.bind (r4.bind (r5.bind (Run.bindE rq))), rfl⟩
 rintro v w6 ⟨k6, p, t6, r6, q6, rfl, hp⟩
 have h6 := h5.next k6 q6
 have b6 := b5.keep k6 (by simp <;> omega)
 have e6 := e5.keep k6 (by simp <;> omega)
 have k16 := k15.trans k6 (by simp)
 have z6 := k6.size
 refine AC (AU rfl ?_)
 repeat refine nx rfl ?_
 refine AA (AO rfl ?_)
 refine Ac (requirement_ok E t6.length w6 t6 h6 (Nat.le_refl _)) rfl ?_ ?_
 rotate_left
 ·rintro ch wq ⟨kq, lq, rq, rfl⟩
  repeat refine nx rfl ?_
  exact AY ⟨k16.trans kq (by simp), lq, r2.bind (r4.bind (r5.bind (r6.bind (Run.callE rq)))), rfl⟩
 rintro v w7 ⟨k7, r, t7, r7, q7, c, rfl, f7⟩
 have b7 := b6.keep k7 (by simp <;> omega)
 have e7 := e6.keep k7 (by simp <;> omega)
 have k17 := k16.trans k7 (by simp)
 have z7 := k7.size
 have hcl : c.length = 8 := reqR.len f7
 have hco := reqR.one f7
 refine AD rfl ?_
 refine AZ (cs := c) rfl rfl hcl hco e7 (by simp [zero8]) (fun w8 p8 => ?_)
 have b8 := b7.keep p8.keep (by simp <;> omega)
 have e8 : Blk w8 w2.heap.size 32 (.int .i64 kd :: c) := by
  have := p8.blk
  have es : splice (Value.int .i64 kd :: zero8) (0 + 1) c = .int .i64 kd :: c := by
   simp [splice, hcl, zero8]
  rw [es] at this
  exact this
 have f8 := reqR.keep f7 p8.keep (by intro b hb; simp [fresh] at hb ⊢; omega)
 have z8 := p8.size
 repeat refine nx rfl ?_
 obtain ⟨d, rfl, hd5, hdf⟩ := f8
 refine AA (AU rfl (AD rfl (AD rfl ?_)))
 refine Ah rfl rfl rfl e8 (by simp) (fun w9 p9 => ?_)
 have b9 := b8.keep p9.keep (by simp <;> omega)
 have e9 : Blk w9 w2.heap.size 32 (.int .i64 kd :: ([AK p, AK r.name, .int .i64 r.kind] ++ d)) := p9.blk
 have f9 := hdf.keep p9.keep (by intro b hb; simp [fresh] at hb ⊢; omega)
 have z9 := p9.size
 repeat refine nx rfl ?_
 have hlen : (Value.int .i64 kd :: ([AK p, AK r.name, .int .i64 r.kind] ++ d)).length = 9 := by simp [hd5]
 have hr : reqR.fits (fresh w6) w9 ([AK p, AK r.name, .int .i64 r.kind] ++ d) ⟨p, r.name, r.kind, r.formula⟩ := ⟨d, rfl, hd5, f9⟩
 have hone : oneC (Value.int .i64 kd :: ([AK p, AK r.name, .int .i64 r.kind] ++ d)) := by
  intro u hu
  rcases List.mem_cons.1 hu with rfl | hu
  ·rfl
  ·exact reqR.one hr u hu
 refine AA (AV rfl e9 hlen ?_)
 refine AZ (cs := .int .i64 kd :: ([AK p, AK r.name, .int .i64 r.kind] ++ d)) rfl rfl hlen hone b9 (by simp [zero8]) (fun w10 p10 => ?_)
 repeat refine nx rfl ?_
 have b10 : Blk w10 w.heap.size 32 (.int .i64 kd :: ([AK p, AK r.name, .int .i64 r.kind] ++ d)) := by
  have := p10.blk
  rw [Bc _ _ (by rw [hlen]; rfl)] at this
  exact this
 have f10 := reqR.keep hr p10.keep (by intro b hb; simp [fresh] at hb ⊢; omega)
 exact A6 rfl rfl hlen b10.cells ⟨((k17.trans p8.keep (by simp <;> omega)).trans p9.keep (by simp <;> omega)).trans p10.keep (by simp <;> omega), ⟨kd, ⟨p, r.name, r.kind, r.formula⟩⟩, t7, r2.bind (r4.bind (r5.bind (r6.bind (Run.call r7 (Run.ret _ _))))), ((q7.keep p8.keep (by simp <;> omega)).keep p9.keep (by simp <;> omega)).keep p10.keep (by simp <;> omega), _, rfl, _, rfl, reqR.mono f10 fun b hb => by simp only [fresh] at hb ⊢; omega⟩
end Go.Proofs.YtfcgdbmoncnibaaGreatDoor
namespace Go.Proofs.YtfcgdbmoncnibaaGreatDoor
open Go.RowKit
set_option linter.unusedVariables false
variable {mk : Prop} [MK mk]
theorem fml_eq {f g : Fml} : f = g ↔ f.op = g.op ∧ f.name = g.name ∧ f.val = g.val ∧ f.bound = g.bound ∧ f.args = g.args := by
 obtain ⟨a, b, c, d, e⟩ := f
 obtain ⟨a', b', c', d', e'⟩ := g
 simp [Fml.op, Fml.name, Fml.val, Fml.bound, Fml.args]
theorem ints_ok (a b : Int) (w : World) : Fn Tryz.prog 141 [.int .i64 a, .int .i64 b] w fun v w' => ∃ c : Int, v = .int .i64 c ∧ (c = 0 ↔ a = b) ∧ w' = w := by
 refine Ae Tryz.func141 rfl Tryz.ntmps141 (Nat.le_of_ble_eq_true rfl) (by kernel_rfl) ?_
 repeat refine nx rfl ?_
 refine AA (AC (AH rfl ?_))
 repeat refine nx rfl ?_
 by_cases h1 : a < b
 ·refine AA (AH rfl (AH rfl (BG rfl rfl (by omega) ?_)))
  repeat refine nx rfl ?_
  refine AA (AC (AH rfl ?_))
  repeat refine nx rfl ?_
  exact AP rfl ⟨-1, rfl, by omega, rfl⟩
 ·refine AA (AH rfl (AH rfl (BH rfl rfl (by omega) ?_)))
  repeat first | refine nx rfl ?_ | refine nf rfl ?_
  by_cases h2 : b < a
  ·refine AA (AH rfl (AH rfl (DF rfl rfl (by omega) ?_)))
   repeat refine nx rfl ?_
   refine AA (AC (AH rfl ?_))
   repeat refine nx rfl ?_
   exact AP rfl ⟨1, rfl, by omega, rfl⟩
  ·refine AA (AH rfl (AH rfl (DH rfl rfl (by omega) ?_)))
   repeat first | refine nx rfl ?_ | refine nf rfl ?_
   refine AA (AC (AH rfl ?_))
   repeat refine nx rfl ?_
   exact AP rfl ⟨0, rfl, by omega, rfl⟩
theorem W_slss {P : Program} {all : Array Oper} {Z : Fr → DS → List PanicEntry → World → Prop} {K : Fr → DS → World → Prop} {rest : List Oper} {f : Fr} {ds : DS} {w : World} {d : Nat} {ty : TypeId} {pos : String} {af : Array Edge} {xt yt : TypeId} {x y : Operand} {s t : List UInt8}
  (hx : ev f x = AK s) (hy : ev f y = AK t) (h : ∀ b : Bool, AX P all Z K rest (upd f d (.bool b)) ds w) : AX P all Z K (⟨some d, .binOp .lss xt x y yt, ty, pos, af, none⟩ :: rest) f ds w :=
 A4 (v := .bool (Op.bytesLess s t)) rfl (by simp [execOp, hx, hy, eqGuard, binOp, Op.stringOp]) (h _)
theorem compare_ok : ∀ (n : Nat) (f g : Fml), SizeOf.sizeOf f ≤ n → ∀ (w : World) (v v' : Value), FAt A1 w v f → FAt A1 w v' g → Fn Tryz.prog 103 [v, v'] w fun r w' => ∃ c : Int, r = .int .i64 c ∧ (c = 0 ↔ f = g) ∧ Ext w w' := by
 intro n
 induction n with
 | zero => intro f g hn; cases f; simp at hn
 | succ n ih =>
 intro f g hn w v v' hf hg
 obtain ⟨av, rfl, L, hS, hL, h5, hA⟩ := hf.form
 obtain ⟨bv, rfl, M, hS', hL', h5', hA'⟩ := hg.form
 obtain ⟨aa, ac, rfl, _⟩ := id hS
 obtain ⟨ba, bc, rfl, _⟩ := id hS'
 have hla : f.args.length ≤ 9223372036854775807 := by obtain ⟨_, _, hv, g1, g2, _⟩ := id hS; cases hv; omega
 have hsz : ∀ x ∈ f.args, SizeOf.sizeOf x ≤ n := by
  intro x hx
  cases f with
  | mk o nm vl bd args =>
   have := List.sizeOf_lt_of_mem hx
   simp [Fml.args] at this hn
   omega
 refine Ae Tryz.func103 rfl Tryz.ntmps103 (Nat.le_of_ble_eq_true rfl) (by kernel_rfl) ?_
 repeat refine nx rfl ?_
 (refine AA ?_; refine Bh (L := [.int .i64 f.op, AK f.name, .int .i64 f.val, .int .i64 f.bound, .slice aa f.args.length ac]) rfl (fun w1 n1 => ?_))
 refine Bh (L := [.int .i64 g.op, AK g.name, .int .i64 g.val, .int .i64 g.bound, .slice ba g.args.length bc]) rfl (fun w2 n2 => ?_)
 have a2 : Blk w2 w.heap.size 24 [.int .i64 f.op, AK f.name, .int .i64 f.val, .int .i64 f.bound, .slice aa f.args.length ac] := n1.blk.keep n2.keep (by simp)
 have b2 := n2.blk
 have k2 : Ext w w2 := n1.keep.trans n2.keep
 refine AC (AH rfl ?_)
 repeat refine nx rfl ?_
 (refine AA (AD rfl (AF rfl (Blk.cell (by assumption) (by rfl)) ?_)) <;> refine AD rfl (AF rfl (Blk.cell (by assumption) (by rfl)) ?_))
 refine AS (ints_ok _ _ _) rfl ?_
 rintro _ w3 ⟨c0, rfl, h0, rfl⟩
 refine AC (AH rfl (AJ ?_))
 refine DG ?_
 refine DV ?_
 refine CE (α := Int) (fun c => [(2, pt w.heap.size), (3, pt w1.heap.size), (4, .int .i64 0), (5, .int .i64 c)]) (fun c W => Blk W w.heap.size 24 [.int .i64 f.op, AK f.name, .int .i64 f.val, .int .i64 f.bound, .slice aa f.args.length ac] ∧ Blk W w1.heap.size 24 [.int .i64 g.op, AK g.name, .int .i64 g.val, .int .i64 g.bound, .slice ba g.args.length bc] ∧ Ext w W ∧ (c = 0 ↔ f.op = g.op ∧ f.name = g.name)) ?_ ?_
 ·repeat refine nx rfl ?_
  by_cases hc0 : c0 = 0
  ·by_cases hnm : f.name = g.name
   ·(refine AA (AH rfl (At rfl rfl (by omega) (AB rfl (AE rfl (AD rfl (AE rfl (AF rfl (Blk.cell (by assumption) (by rfl)) ?_))))))) <;> refine AE rfl (AD rfl (AE rfl (AF rfl (Blk.cell (by assumption) (by rfl)) ?_))) <;> (refine AE rfl ?_; refine W_sneq rfl rfl (fun hc => ?_) (fun hc => ?_)) <;> refine AL rfl (AB rfl (AJ ?_)))
    ·exact absurd hnm (by assumption)
    repeat first | refine nx rfl ?_ | refine nf rfl ?_
    exact Am c0 ⟨rfl, rfl, rfl, rfl, trivial⟩ ⟨a2, b2, k2, by simp_all⟩
   ·(refine AA (AH rfl (At rfl rfl (by omega) (AB rfl (AE rfl (AD rfl (AE rfl (AF rfl (Blk.cell (by assumption) (by rfl)) ?_))))))) <;> refine AE rfl (AD rfl (AE rfl (AF rfl (Blk.cell (by assumption) (by rfl)) ?_))) <;> (refine AE rfl ?_; refine W_sneq rfl rfl (fun hc => ?_) (fun hc => ?_)) <;> refine AL rfl (AB rfl (AJ ?_)))
    rotate_left
    ·exact absurd (by assumption) hnm
    repeat refine nx rfl ?_
    refine AA (AC (AH rfl ?_))
    repeat refine nx rfl ?_
    (refine AA (AD rfl (AF rfl (Blk.cell (by assumption) (by rfl)) ?_)) <;> refine AD rfl (AF rfl (Blk.cell (by assumption) (by rfl)) ?_))
    refine W_slss rfl rfl (fun b => ?_)
    refine AJ ?_
    cases b with
    | true =>
     repeat refine nx rfl ?_
     refine AA (AC (AH rfl ?_))
     repeat refine nx rfl ?_
     exact Am (-1) ⟨rfl, rfl, rfl, rfl, trivial⟩ ⟨a2, b2, k2, by simp_all⟩
    | false =>
     repeat first | refine nx rfl ?_ | refine nf rfl ?_
     exact Am 1 ⟨rfl, rfl, rfl, rfl, trivial⟩ ⟨a2, b2, k2, by simp_all⟩
  ·refine AA (AH rfl (AQ rfl rfl (by omega) (AB rfl (AI rfl (AI rfl (AI rfl (AI rfl (AI rfl (AN rfl (AB rfl ?_))))))))))
   repeat first | refine nx rfl ?_ | refine nf rfl ?_
   exact Am c0 ⟨rfl, rfl, rfl, rfl, trivial⟩ ⟨a2, b2, k2, by simp_all⟩
 clear a2 b2 k2
 rintro c w3 f3 ⟨a2, b2, k2, hp⟩
 refine DV ?_
 refine CE (α := Int) (fun c => [(2, pt w.heap.size), (3, pt w1.heap.size), (4, .int .i64 0), (5, .int .i64 c)]) (fun c W => Blk W w.heap.size 24 [.int .i64 f.op, AK f.name, .int .i64 f.val, .int .i64 f.bound, .slice aa f.args.length ac] ∧ Blk W w1.heap.size 24 [.int .i64 g.op, AK g.name, .int .i64 g.val, .int .i64 g.bound, .slice ba g.args.length bc] ∧ Ext w W ∧ (c = 0 ↔ f.op = g.op ∧ f.name = g.name ∧ f.val = g.val)) ?_ ?_
 ·repeat refine nx rfl ?_
  by_cases hc0 : c = 0
  ·refine AA (AH rfl (At rfl rfl (by omega) ?_))
   repeat refine nx rfl ?_
   (refine AA (AD rfl (AF rfl (Blk.cell (by assumption) (by rfl)) ?_)) <;> refine AD rfl (AF rfl (Blk.cell (by assumption) (by rfl)) ?_))
   refine AS (ints_ok _ _ _) rfl ?_
   rintro _ w5 ⟨c5, rfl, h5c, rfl⟩
   refine AC (AH rfl ?_)
   repeat refine nx rfl ?_
   exact Am c5 ⟨rfl, rfl, rfl, rfl, trivial⟩ ⟨a2, b2, k2, by have := hp.1 hc0; constructor <;> intro h <;> simp_all <;> omega⟩
  ·refine AA (AH rfl (AQ rfl rfl (by omega) ?_))
   repeat first | refine nx rfl ?_ | refine nf rfl ?_
   exact Am c ⟨rfl, rfl, rfl, rfl, trivial⟩ ⟨a2, b2, k2, by constructor <;> intro h <;> simp_all⟩
 clear a2 b2 k2 hp
 rintro c w3 f3 ⟨a2, b2, k2, hp⟩
 refine DV ?_
 refine CE (α := Int) (fun c => [(2, pt w.heap.size), (3, pt w1.heap.size), (4, .int .i64 0), (5, .int .i64 c)]) (fun c W => Blk W w.heap.size 24 [.int .i64 f.op, AK f.name, .int .i64 f.val, .int .i64 f.bound, .slice aa f.args.length ac] ∧ Blk W w1.heap.size 24 [.int .i64 g.op, AK g.name, .int .i64 g.val, .int .i64 g.bound, .slice ba g.args.length bc] ∧ Ext w W ∧ (c = 0 ↔ f.op = g.op ∧ f.name = g.name ∧ f.val = g.val ∧ f.bound = g.bound)) ?_ ?_
 ·repeat refine nx rfl ?_
  by_cases hc0 : c = 0
  ·refine AA (AH rfl (At rfl rfl (by omega) ?_))
   repeat refine nx rfl ?_
   (refine AA (AD rfl (AF rfl (Blk.cell (by assumption) (by rfl)) ?_)) <;> refine AD rfl (AF rfl (Blk.cell (by assumption) (by rfl)) ?_))
   refine AS (ints_ok _ _ _) rfl ?_
   rintro _ w5 ⟨c5, rfl, h5c, rfl⟩
   refine AC (AH rfl ?_)
   repeat refine nx rfl ?_
   exact Am c5 ⟨rfl, rfl, rfl, rfl, trivial⟩ ⟨a2, b2, k2, by have := hp.1 hc0; constructor <;> intro h <;> simp_all <;> omega⟩
  ·refine AA (AH rfl (AQ rfl rfl (by omega) ?_))
   repeat first | refine nx rfl ?_ | refine nf rfl ?_
   exact Am c ⟨rfl, rfl, rfl, rfl, trivial⟩ ⟨a2, b2, k2, by constructor <;> intro h <;> simp_all⟩
 clear a2 b2 k2 hp
 rintro c w3 f3 ⟨a2, b2, k2, hp⟩
 refine DV ?_
 refine CE (α := Int) (fun c => [(2, pt w.heap.size), (3, pt w1.heap.size), (4, .int .i64 0), (5, .int .i64 c)]) (fun c W => Blk W w.heap.size 24 [.int .i64 f.op, AK f.name, .int .i64 f.val, .int .i64 f.bound, .slice aa f.args.length ac] ∧ Blk W w1.heap.size 24 [.int .i64 g.op, AK g.name, .int .i64 g.val, .int .i64 g.bound, .slice ba g.args.length bc] ∧ Ext w W ∧ (c = 0 ↔ f.op = g.op ∧ f.name = g.name ∧ f.val = g.val ∧ f.bound = g.bound ∧ f.args.length = g.args.length)) ?_ ?_
 ·repeat refine nx rfl ?_
  by_cases hc0 : c = 0
  ·refine AA (AH rfl (At rfl rfl (by omega) ?_))
   repeat refine nx rfl ?_
   (refine AA (AD rfl (AF rfl (Blk.cell (by assumption) (by rfl)) ?_)) <;> refine Ap rfl (AD rfl (AF rfl (Blk.cell (by assumption) (by rfl)) ?_)) <;> refine Ap rfl ?_)
   refine AS (ints_ok _ _ _) rfl ?_
   rintro _ w5 ⟨c5, rfl, h5c, rfl⟩
   refine AC (AH rfl ?_)
   repeat refine nx rfl ?_
   exact Am c5 ⟨rfl, rfl, rfl, rfl, trivial⟩ ⟨a2, b2, k2, by have := hp.1 hc0; constructor <;> intro h <;> simp_all <;> omega⟩
  ·refine AA (AH rfl (AQ rfl rfl (by omega) ?_))
   repeat first | refine nx rfl ?_ | refine nf rfl ?_
   exact Am c ⟨rfl, rfl, rfl, rfl, trivial⟩ ⟨a2, b2, k2, by constructor <;> intro h <;> simp_all⟩
 clear a2 b2 k2 hp
 rintro c w3 f3 ⟨a2, b2, k2, hp⟩
 refine DV ?_
 refine DV ?_
 refine AA (AC (AH rfl ?_))
 repeat refine nx rfl ?_
 refine BN (α := Nat × Int) (fun x => [(2, pt w.heap.size), (3, pt w1.heap.size), (4, .int .i64 0), (5, .int .i64 x.2), (6, .int .i64 (x.1 : Int))])
  (fun x W => x.1 ≤ f.args.length ∧ Ext w3 W ∧ (x.2 = 0 ↔ (f.op = g.op ∧ f.name = g.name ∧ f.val = g.val ∧ f.bound = g.bound ∧ f.args.length = g.args.length) ∧ ∀ j, j < x.1 → f.args[j]? = g.args[j]?)) (fun x => f.args.length - x.1) (0, c) ⟨rfl, rfl, rfl, rfl, rfl, trivial⟩
  ⟨by simp, Ext.refl _, by simp only; rw [hp]; exact ⟨fun h => ⟨h, fun j hj => by omega⟩, fun h => h.1⟩⟩ ?_
 rintro ⟨i, c'⟩ w4 f4 ⟨hi, k4, hpi⟩
 simp only at hi hpi ⊢
 repeat refine nx rfl ?_
 have hend : ∀ (W : World), Ext w3 W → (c' = 0 → i = f.args.length) → ∃ c0 : Int, Value.int .i64 c' = .int .i64 c0 ∧ (c0 = 0 ↔ f = g) ∧ Ext w W := by
  intro W kW hii
  refine ⟨c', rfl, ?_, k2.trans kW⟩
  rw [fml_eq]
  constructor
  ·intro h
   obtain ⟨⟨h1, h2, h3, h4, h5⟩, h6⟩ := hpi.1 h
   refine ⟨h1, h2, h3, h4, List.ext_getElem? fun j => ?_⟩
   by_cases hj : j < i
   ·exact h6 j hj
   ·have := hii h
    rw [List.getElem?_eq_none (by omega), List.getElem?_eq_none (by omega)]
  ·rintro ⟨h1, h2, h3, h4, h5⟩
   exact hpi.2 ⟨⟨h1, h2, h3, h4, by rw [h5]⟩, fun j _ => by rw [h5]⟩
 have a4 := a2.keep k4 (by simp)
 have b4 := b2.keep k4 (by simp)
 by_cases hlt : i < f.args.length
 ·by_cases hc0 : c' = 0
  ·have hlen : f.args.length = g.args.length := (hpi.1 hc0).1.2.2.2.2
   have kk := k2.trans k4
   obtain ⟨x, hx⟩ : ∃ x, f.args[i]? = some x := ⟨_, List.getElem?_eq_getElem hlt⟩
   obtain ⟨y, hy⟩ : ∃ y, g.args[i]? = some y := ⟨_, List.getElem?_eq_getElem (by omega)⟩
   obtain ⟨cx, hcx⟩ : ∃ cx, L[i]? = some cx := ⟨_, List.getElem?_eq_getElem (by omega)⟩
   obtain ⟨cy, hcy⟩ : ∃ cy, M[i]? = some cy := ⟨_, List.getElem?_eq_getElem (by omega)⟩
   have hfx := (hA i cx x hcx hx).ext kk
   have hfy := (hA' i cy y hcy hy).ext kk
   have hx5 := h5 cx (List.mem_of_getElem? hcx)
   have hy5 := h5' cy (List.mem_of_getElem? hcy)
   obtain ⟨bx, ox, rfl, _, hcellx⟩ := (hS.ext kk).fml h5 hcx hlt
   obtain ⟨by', oy, rfl, _, hcelly⟩ := (hS'.ext kk).fml h5' hcy (by omega)
   obtain ⟨x0, x1, x2, x3, x4, rfl⟩ := Cx hx5
   obtain ⟨y0, y1, y2, y3, y4, rfl⟩ := Cx hy5
   (refine AA (AH rfl (AD rfl (AF rfl (Blk.cell (by assumption) (by rfl)) ?_))) <;> refine Ap rfl (BG rfl rfl (by omega) (AB rfl (AE rfl (AH rfl (AE rfl (At rfl rfl (by omega) (AL rfl (AB rfl ?_)))))))))
   repeat refine nx rfl ?_
   refine A3 (.read 0 (.read 1 (.read 2 (.read 3 (.read 4 (.read 5 (.read 6 (.read 7 (.read 8 (.read 9 (.alt 10 (.read 11 .done) .stop))))))))))) BA (by kernel_rfl) (fun wd kd ed => ⟨Ext wd, ?_, ?_⟩)
   ·exact Ext.refl _
   have fa : ∀ W : World, Ext wd W → W.cell? ⟨w.heap.size, 0 + 4, none⟩ = some (.slice (some ⟨bx, ox, none⟩) f.args.length ac) := fun W e => ((a4.keep kd (by simp)).keep e (by simp)).cell rfl
   have fb : ∀ W : World, Ext wd W → W.cell? ⟨w1.heap.size, 0 + 4, none⟩ = some (.slice (some ⟨by', oy, none⟩) g.args.length bc) := fun W e => ((b4.keep kd (by simp)).keep e (by simp)).cell rfl
   have fc : ∀ W : World, Ext wd W → Cells W bx (ox + i * 5) [x0, x1, x2, x3, x4] := fun W e => (hcellx.keep kd (by simp)).keep e (by simp)
   have fd : ∀ W : World, Ext wd W → Cells W by' (oy + i * 5) [y0, y1, y2, y3, y4] := fun W e => (hcelly.keep kd (by simp)).keep e (by simp)
   (refine D_R rfl rfl (fun W hW => AD rfl Z3) (D_R rfl rfl (fun W hW => AF rfl (fa W hW) Z3) (D_R rfl rfl (fun W hW => AH rfl Z3) (D_R rfl rfl (fun W hW => B7 rfl rfl rfl (by omega) Z3) ?_))) <;> (apply D_R rfl rfl; (intro W hW; refine Ad rfl (by rfl) (fc W hW) ?_; exact Z3)) <;> refine D_R rfl rfl (fun W hW => AD rfl Z3) (D_R rfl rfl (fun W hW => AF rfl (fb W hW) Z3) (D_R rfl rfl (fun W hW => AH rfl Z3) (D_R rfl rfl (fun W hW => B7 rfl rfl rfl (by omega) Z3) ?_))) <;> (apply D_R rfl rfl; (intro W hW; refine Ad rfl (by rfl) (fd W hW) ?_; exact Z3)))
   refine D_E rfl ?_
   refine AS (ih x y (hsz x (List.mem_of_getElem? hx)) wd _ _ (hfx.ext kd) (hfy.ext kd)) rfl ?_
   rintro _ w6 ⟨c6, rfl, h6, k6⟩
   refine AJ ⟨Ext w6, fun W e => k6.trans e, Ext.refl _, ?_⟩
   refine D_R rfl rfl (fun W hW => AC (AH rfl Z3)) (Ay ?_)
   repeat refine nx rfl ?_
   (refine AA (AH rfl (BU rfl rfl (by first | exact Ao (by omega) (by omega) | exact Au (by omega) (by omega) | exact An (by omega) (by omega)) ?_)) <;> refine AC (AH rfl ?_))
   repeat refine nx rfl ?_
   refine ⟨(i + 1, c6), ⟨rfl, ⟨rfl, rfl, rfl, rfl, ?_, trivial⟩, ⟨by simp only; omega, (k4.trans kd).trans k6, ?_⟩⟩, by simp only; omega⟩
   ·show Value.int .i64 ((i : Int) + 1) = _
    rw [Int.natCast_add]; rfl
   ·simp only
    rw [h6]
    obtain ⟨hh, hjj⟩ := hpi.1 hc0
    constructor
    ·rintro rfl
     refine ⟨hh, fun j hj => ?_⟩
     by_cases hji : j = i
     ·subst hji; rw [hx, hy]
     ·exact hjj j (by omega)
    ·rintro ⟨_, hj⟩
     have := hj i (by omega)
     rw [hx, hy] at this
     exact Option.some.inj this
  ·(refine AA (AH rfl (AD rfl (AF rfl (Blk.cell (by assumption) (by rfl)) ?_))) <;> refine Ap rfl (BG rfl rfl (by omega) (AB rfl (AE rfl (AH rfl (AE rfl (AQ rfl rfl (by omega) (AL rfl (AB rfl ?_)))))))))
   repeat first | refine nx rfl ?_ | refine nf rfl ?_
   refine AA (AH rfl (AC (AH rfl ?_)))
   repeat refine nx rfl ?_
   exact AP rfl (hend w4 k4 (fun h => absurd h hc0))
 ·(refine AA (AH rfl (AD rfl (AF rfl (Blk.cell (by assumption) (by rfl)) ?_))) <;> refine Ap rfl (BH rfl rfl (by omega) (AB rfl (AI rfl (AI rfl (AN rfl (AB rfl ?_)))))))
  repeat first | refine nx rfl ?_ | refine nf rfl ?_
  refine AA (AH rfl (AC (AH rfl ?_)))
  repeat refine nx rfl ?_
  exact AP rfl (hend w4 k4 (fun h => by omega))
theorem same_ok (w : World) (v v' : Value) (f g : Fml) (hf : FAt A1 w v f) (hg : FAt A1 w v' g) : Fn Tryz.prog 62 [v, v'] w fun r w' => ∃ b : Bool, r = .bool b ∧ (b = true ↔ f = g) ∧ Ext w w' := by
 obtain ⟨cs, rfl, hcs, hone⟩ := hf.cells
 obtain ⟨ds, rfl, hds, hone2⟩ := hg.cells
 obtain ⟨c0, c1, c2, c3, c4, rfl⟩ := Cx hcs
 obtain ⟨d0, d1, d2, d3, d4, rfl⟩ := Cx hds
 refine Ae Tryz.func62 rfl Tryz.ntmps62 (Nat.le_of_ble_eq_true rfl) (by kernel_rfl) ?_
 repeat refine nx rfl ?_
 (refine AA ?_; refine Bh (L := [c0, c1, c2, c3, c4]) rfl (fun w1 n1 => ?_))
 refine Bh (L := [d0, d1, d2, d3, d4]) rfl (fun w2 n2 => ?_)
 have a2 := n1.blk.keep n2.keep (by simp)
 have b2 := n2.blk
 have k2 : Ext w w2 := n1.keep.trans n2.keep
 refine AC (AB rfl ?_)
 repeat refine nx rfl ?_
 refine AA (AV rfl a2 rfl ?_)
 refine AV rfl b2 rfl ?_
 refine AS (compare_ok _ f g (Nat.le_refl _) w2 _ _ (hf.ext k2) (hg.ext k2)) rfl ?_
 rintro _ w3 ⟨c, rfl, hcq, k3⟩
 by_cases h0 : c = 0
 ·refine At rfl rfl (by omega) (AC (AB rfl ?_))
  repeat refine nx rfl ?_
  exact AP rfl ⟨true, rfl, by simp [hcq.1 h0], k2.trans k3⟩
 ·refine AQ rfl rfl (by omega) (AC (AB rfl ?_))
  repeat refine nx rfl ?_
  exact AP rfl ⟨false, rfl, by simp; exact fun e => h0 (hcq.2 e), k2.trans k3⟩
end Go.Proofs.YtfcgdbmoncnibaaGreatDoor
namespace Go.Proofs.YtfcgdbmoncnibaaGreatDoor
open Go.RowKit
set_option linter.unusedVariables false
variable {mk : Prop} [MK mk]
abbrev FV (w : World) (v : Value) (f : Fml) : Prop := FAt A1 w v f
theorem rop_ok (w : World) (op : Int) (ok : Nat → Prop) (a : Option Addr) (c : Nat) (L : List (List Value)) (l : List Fml) (hS : Sl ok w (.slice a l.length c) l.length L.flatten) (hF : FsAt ok w L l) :
  Fn Tryz.prog 36 [.int .i64 op, .slice a l.length c] w fun v w' => Ext w w' ∧ FAt ok w' v ⟨op, [], 0, 0, l⟩ := by
 refine Ae Tryz.func36 rfl Tryz.ntmps36 (Nat.le_of_ble_eq_true rfl) (by kernel_rfl) ?_
 repeat refine nx rfl ?_
 refine AA ?_
 refine Av (fun w1 n1 => ?_)
 have b1 : Blk w1 w.heap.size 24 Cy := n1.blk
 repeat refine nx rfl ?_
 refine AA (AH rfl (Aa rfl (Af (by rfl) (by rfl) ?_)))
 refine AZ (cs := [.int .i64 op, AK [], .int .i64 0, .int .i64 0, .slice a l.length c]) rfl rfl rfl (A5 rfl) b1 (by simp [Cy]) (fun w2 p2 => ?_)
 have b2 : Blk w2 w.heap.size 24 [.int .i64 op, AK [], .int .i64 0, .int .i64 0, .slice a l.length c] := p2.blk
 repeat refine nx rfl ?_
 have k2 : Ext w w2 := n1.keep.keep p2.keep (by simp)
 exact A6 rfl rfl rfl b2.cells ⟨k2, FAt.node op [] 0 0 (hS.ext k2) (hF.ext k2)⟩
theorem rlate_ok (w : World) (op val : Int) (ok : Nat → Prop) (a : Option Addr) (c : Nat) (L : List (List Value)) (l : List Fml) (hS : Sl ok w (.slice a l.length c) l.length L.flatten) (hF : FsAt ok w L l) :
  Fn Tryz.prog 37 [.int .i64 op, .int .i64 val, .slice a l.length c] w fun v w' => Ext w w' ∧ FAt ok w' v ⟨op, [], val, 0, l⟩ := by
 refine Ae Tryz.func37 rfl Tryz.ntmps37 (Nat.le_of_ble_eq_true rfl) (by kernel_rfl) ?_
 repeat refine nx rfl ?_
 refine AA ?_
 refine Av (fun w1 n1 => ?_)
 have b1 : Blk w1 w.heap.size 24 Cy := n1.blk
 repeat refine nx rfl ?_
 refine AA (AH rfl (AH rfl (Aa rfl (Af (by rfl) (by rfl) ?_))))
 refine AZ (cs := [.int .i64 op, AK [], .int .i64 val, .int .i64 0, .slice a l.length c]) rfl rfl rfl (A5 rfl) b1 (by simp [Cy]) (fun w2 p2 => ?_)
 have b2 : Blk w2 w.heap.size 24 [.int .i64 op, AK [], .int .i64 val, .int .i64 0, .slice a l.length c] := p2.blk
 repeat refine nx rfl ?_
 have k2 : Ext w w2 := n1.keep.keep p2.keep (by simp)
 exact A6 rfl rfl rfl b2.cells ⟨k2, FAt.node op [] val 0 (hS.ext k2) (hF.ext k2)⟩
theorem ris_ok (w : World) (s : List UInt8) (n : Int) : Fn Tryz.prog 33 [AK s, .int .i64 n] w fun v w' => Ext w w' ∧ FV w' v (isF s n) := by
 refine Ae Tryz.func33 rfl Tryz.ntmps33 (Nat.le_of_ble_eq_true rfl) (by kernel_rfl) ?_
 repeat refine nx rfl ?_
 refine AA ?_
 refine Av (fun w1 n1 => ?_)
 have b1 : Blk w1 w.heap.size 24 Cy := n1.blk
 repeat refine nx rfl ?_
 refine AA (AU rfl (AH rfl (Af (by rfl) (by rfl) ?_)))
 refine AZ (cs := [.int .i64 3, AK s, .int .i64 n, .int .i64 0, .slice none 0 0]) rfl rfl rfl (A5 rfl) b1 (by simp [Cy]) (fun w2 p2 => ?_)
 have b2 : Blk w2 w.heap.size 24 [.int .i64 3, AK s, .int .i64 n, .int .i64 0, .slice none 0 0] := p2.blk
 repeat refine nx rfl ?_
 exact A6 rfl rfl rfl b2.cells ⟨n1.keep.keep p2.keep (by simp), FAt.leaf _ _ _ _ _ _⟩
theorem FAt.ret {ok : Nat → Prop} {w w' : World} {v : Value} {f : Fml} {b : Nat} {cs : List Value} (h : FAt (fun x => ok x ∧ x ≠ b) w v f) (e : v = .agg cs.toArray) (k : Keep [b] w w') : FAt ok w' (.agg cs.toArray) f := by
 rw [← e]
 exact (h.keep k (fun x hx => by simpa using hx.2)).mono fun x hx => hx.1
theorem roneX_ok (w : World) (op : Int) (ok : Nat → Prop) (v : Value) (f : Fml) (hf : FAt ok w v f) (hk : ok w.heap.size) (hk2 : ∀ x, w.heap.size ≤ x → ok x) : Fn Tryz.prog 35 [.int .i64 op, v] w fun v w' => Ext w w' ∧ FAt ok w' v ⟨op, [], 0, 0, [f]⟩ := by
 have hflt := hf.lt
 obtain ⟨cs, rfl, hcs, hone⟩ := hf.cells
 obtain ⟨c0, c1, c2, c3, c4, rfl⟩ := Cx hcs
 refine Ae Tryz.func35 rfl Tryz.ntmps35 (Nat.le_of_ble_eq_true rfl) (by kernel_rfl) ?_
 repeat refine nx rfl ?_
 (refine AA ?_; refine Bh (L := [c0, c1, c2, c3, c4]) rfl (fun w1 n1 => ?_))
 refine Av (fun w2 n2 => ?_)
 have a2 := n1.blk.keep n2.keep (by simp)
 have b2 : Blk w2 w1.heap.size 24 Cy := n2.blk
 have k2 : Ext w w2 := n1.keep.trans n2.keep
 have z1 := n1.size
 have z2 := n2.size
 repeat refine nx rfl ?_
 refine AA (AH rfl ?_)
 refine AV rfl a2 rfl ?_
 refine AW (out := [c0, c1, c2, c3, c4]) rfl (by omega) (by rw [made5]; rfl) (fun w3 n3 => ?_)
 have z3 := n3.size
 obtain ⟨S3, F3⟩ := FsAt.fresh (ok := fun x => ok x ∧ x ≠ w1.heap.size) (L := [[c0, c1, c2, c3, c4]]) n3 (FsAt.one ((hflt.ext k2).mono fun x hx => ⟨hx.1, by omega⟩) rfl) ⟨hk2 _ (by omega), by omega⟩ (by simp)
 refine AS (rop_ok w3 op _ _ _ _ [f] S3 F3) rfl ?_
 rintro v w4 ⟨k4, f4⟩
 have b4 := (b2.keep n3.keep (by simp)).keep k4 (by simp)
 refine Bv rfl rfl f4 b4 rfl (fun w5 cs e hcs k5 z5 b5 => ?_)
 repeat refine nx rfl ?_
 exact A6 rfl rfl hcs b5.cells ⟨((k2.trans n3.keep).trans k4).keep k5 (by simp; omega), f4.ret e k5⟩
theorem rone_ok (w : World) (op : Int) (v : Value) (f : Fml) (hf : FV w v f) : Fn Tryz.prog 35 [.int .i64 op, v] w fun v w' => Ext w w' ∧ FV w' v ⟨op, [], 0, 0, [f]⟩ := roneX_ok w op A1 v f hf trivial fun _ _ => trivial
theorem rtwoX_ok (w : World) (op : Int) (ok : Nat → Prop) (v v' : Value) (f g : Fml) (hf : FAt ok w v f) (hg : FAt ok w v' g) (hk2 : ∀ x, w.heap.size ≤ x → ok x) : Fn Tryz.prog 34 [.int .i64 op, v, v'] w fun v w' => Ext w w' ∧ FAt ok w' v ⟨op, [], 0, 0, [f, g]⟩ := by
 have hflt := hf.lt
 have hglt := hg.lt
 obtain ⟨cs, rfl, hcs, hone⟩ := hf.cells
 obtain ⟨ds, rfl, hds, hone2⟩ := hg.cells
 obtain ⟨c0, c1, c2, c3, c4, rfl⟩ := Cx hcs
 obtain ⟨d0, d1, d2, d3, d4, rfl⟩ := Cx hds
 refine Ae Tryz.func34 rfl Tryz.ntmps34 (Nat.le_of_ble_eq_true rfl) (by kernel_rfl) ?_
 repeat refine nx rfl ?_
 (refine AA ?_; refine Bh (L := [c0, c1, c2, c3, c4]) rfl (fun w1 n1 => ?_))
 refine Bh (L := [d0, d1, d2, d3, d4]) rfl (fun w2 n2 => ?_)
 refine Av (fun w3 n3 => ?_)
 have a3 := (n1.blk.keep n2.keep (by simp)).keep n3.keep (by simp)
 have d3' := n2.blk.keep n3.keep (by simp)
 have b3 : Blk w3 w2.heap.size 24 Cy := n3.blk
 have k3 : Ext w w3 := (n1.keep.trans n2.keep).trans n3.keep
 have z1 := n1.size
 have z2 := n2.size
 have z3 := n3.size
 repeat refine nx rfl ?_
 refine AA (AH rfl ?_)
 refine AV rfl a3 rfl ?_
 refine AV rfl d3' rfl ?_
 refine AW (out := [c0, c1, c2, c3, c4, d0, d1, d2, d3, d4]) rfl (by omega) (by rw [made10]; rfl) (fun w4 n4 => ?_)
 have z4 := n4.size
 obtain ⟨S4, F4⟩ := FsAt.fresh (ok := fun x => ok x ∧ x ≠ w2.heap.size) (L := [[c0, c1, c2, c3, c4], [d0, d1, d2, d3, d4]]) n4 (FsAt.two ((hflt.ext k3).mono fun x hx => ⟨hx.1, by omega⟩) rfl ((hglt.ext k3).mono fun x hx => ⟨hx.1, by omega⟩) rfl) ⟨hk2 _ (by omega), by omega⟩ (by simp)
 refine AS (rop_ok w4 op _ _ _ _ [f, g] S4 F4) rfl ?_
 rintro v w5 ⟨k5, f5⟩
 have b5 := (b3.keep n4.keep (by simp)).keep k5 (by simp)
 refine Bv rfl rfl f5 b5 rfl (fun w6 cs e hcs k6 z6 b6 => ?_)
 repeat refine nx rfl ?_
 exact A6 rfl rfl hcs b6.cells ⟨((k3.trans n4.keep).trans k5).keep k6 (by simp; omega), f5.ret e k6⟩
theorem DK (w : World) (op : Int) (v v' : Value) (f g : Fml) (hf : FV w v f) (hg : FV w v' g) : Fn Tryz.prog 34 [.int .i64 op, v, v'] w fun v w' => Ext w w' ∧ FV w' v ⟨op, [], 0, 0, [f, g]⟩ := rtwoX_ok w op A1 v v' f g hf hg fun _ _ => trivial
theorem FAt.any {ok ok' : Nat → Prop} {w w' : World} {v : Value} {f : Fml} (h : FAt ok w v f) (h0 : f.args = []) : FAt ok' w' v f := by
 cases h with
 | mk op nm vl bd args av L hS hL h5 hA =>
  have h0' : args = [] := h0
  subst h0'
  obtain ⟨a, c, rfl, h1, h2, h3, _⟩ := hS
  exact .mk op nm vl bd [] _ [] ⟨a, c, rfl, h1, h2, h3, .inl rfl⟩ rfl (fun c hc => by cases hc) (fun i c g h => by simp at h)
end Go.Proofs.YtfcgdbmoncnibaaGreatDoor
namespace Go.Proofs.YtfcgdbmoncnibaaGreatDoor
open Go.RowKit
set_option linter.unusedVariables false
variable {mk : Prop} [MK mk]
theorem rqm_eq {r s : Rqm} : r = s ↔ r.part = s.part ∧ r.name = s.name ∧ r.kind = s.kind ∧ r.formula = s.formula := by
 obtain ⟨a, b, c, d⟩ := r; obtain ⟨a', b', c', d'⟩ := s; simp
theorem sameReq_ok (w : World) (c d : List Value) (r s : Rqm) (hr : reqR.fits A1 w c r) (hs : reqR.fits A1 w d s) : Fn Tryz.prog 63 [.agg c.toArray, .agg d.toArray] w fun v w' => ∃ b : Bool, v = .bool b ∧ (b = true ↔ r = s) ∧ Ext w w' := by
 obtain ⟨c', rfl, hc5, hcf⟩ := hr
 obtain ⟨d', rfl, hd5, hdf⟩ := hs
 obtain ⟨c0, c1, c2, c3, c4, rfl⟩ := Cx hc5
 obtain ⟨d0, d1, d2, d3, d4, rfl⟩ := Cx hd5
 refine Ae Tryz.func63 rfl Tryz.ntmps63 (Nat.le_of_ble_eq_true rfl) (by kernel_rfl) ?_
 repeat refine nx rfl ?_
 (refine AA ?_; refine Bh (L := [AK r.part, AK r.name, .int .i64 r.kind, c0, c1, c2, c3, c4]) rfl (fun w1 n1 => ?_))
 refine Bh (L := [AK s.part, AK s.name, .int .i64 s.kind, d0, d1, d2, d3, d4]) rfl (fun w2 n2 => ?_)
 have a2 := n1.blk.keep n2.keep (by simp)
 have b2 := n2.blk
 have k2 : Ext w w2 := n1.keep.trans n2.keep
 refine AC (AB rfl ?_)
 repeat refine nx rfl ?_
 have ca : Cells w2 w.heap.size 3 [c0, c1, c2, c3, c4] := by
  have := a2.cells.part 3 5
  simpa using this
 have cb : Cells w2 w1.heap.size 3 [d0, d1, d2, d3, d4] := by
  have := b2.cells.part 3 5
  simpa using this
 (refine AA (AD rfl (AF rfl (Blk.cell (by assumption) (by rfl)) ?_)) <;> refine AD rfl (AF rfl (Blk.cell (by assumption) (by rfl)) ?_) <;> refine CB rfl rfl (fun hc => ?_) (fun hc => ?_) <;> refine AB rfl ?_ <;> (first | refine AI rfl ?_ | (refine AE rfl ?_; refine AD rfl ?_)) <;> (first | refine AI rfl ?_ | (refine AE rfl ?_; refine AF rfl (Blk.cell (by assumption) (by rfl)) ?_)) <;> (first | refine AI rfl ?_ | (refine AE rfl ?_; refine AD rfl ?_)) <;> (first | refine AI rfl ?_ | (refine AE rfl ?_; refine AF rfl (Blk.cell (by assumption) (by rfl)) ?_)) <;> (first | refine AI rfl ?_ | (refine AE rfl ?_; refine CB rfl rfl (fun hc => ?_) (fun hc => ?_))) <;> ((first | refine AL rfl ?_ | refine AN rfl ?_); refine AB rfl ?_) <;> refine AB rfl ?_ <;> (first | refine AI rfl ?_ | (refine AE rfl ?_; refine AD rfl ?_)) <;> (first | refine AI rfl ?_ | (refine AE rfl ?_; refine AF rfl (Blk.cell (by assumption) (by rfl)) ?_)) <;> (first | refine AI rfl ?_ | (refine AE rfl ?_; refine AD rfl ?_)) <;> (first | refine AI rfl ?_ | (refine AE rfl ?_; refine AF rfl (Blk.cell (by assumption) (by rfl)) ?_)) <;> (first | refine AI rfl ?_ | (refine AE rfl ?_; (refine Bq rfl rfl (fun hc => ?_) (fun hc => ?_) <;> try omega))) <;> ((first | refine AL rfl ?_ | refine AN rfl ?_); refine AB rfl ?_) <;> refine AB rfl ?_ <;> (first | refine AI rfl ?_ | (refine AE rfl ?_; refine AD rfl ?_)))
 ·refine AE rfl (Ad (L := [c0, c1, c2, c3, c4]) rfl rfl ca ?_)
  refine AE rfl (AD rfl ?_)
  refine AE rfl (Ad (L := [d0, d1, d2, d3, d4]) rfl rfl cb ?_)
  refine AE rfl (AS (same_ok w2 _ _ r.formula s.formula (hcf.ext k2) (hdf.ext k2)) rfl ?_)
  rintro _ w3 ⟨b, rfl, hb, k3⟩
  refine AL rfl (AB rfl (AC (AB rfl ?_)))
  repeat refine nx rfl ?_
  exact AP rfl ⟨b, rfl, by rw [hb, rqm_eq]; exact ⟨fun h => ⟨by assumption, by assumption, by assumption, h⟩, fun h => h.2.2.2⟩, k2.trans k3⟩
 all_goals
  refine AI rfl (AI rfl (AI rfl (AI rfl (AN rfl (AB rfl (AC (AB rfl ?_)))))))
  repeat refine nx rfl ?_
  refine AP rfl ⟨false, rfl, ?_, k2⟩
  rw [rqm_eq]
  constructor
  ·intro h; cases h
  ·rintro ⟨h1, h2, h3, h4⟩
   exfalso
   first | exact absurd h1 (by assumption) | exact absurd h2 (by assumption) | exact absurd h3 (by assumption)
theorem Sl.recs {α : Type} {R : Rp α} {ok : Nat → Prop} {w : World} {a : Option Addr} {n cap k sz : Nat} {L : List (List Value)} {l : List α} {c : List Value} (h : Sl ok w (.slice a n cap) n L.flatten) (hR : RsAt R ok w L l) (hsz : R.size = sz) (hk : L[k]? = some c) (hn : k < n) :
  ∃ b o, a = some ⟨b, o, none⟩ ∧ ok b ∧ Cells w b (o + k * sz) c := by
 obtain ⟨a', cap', hv, h1, h2, h3, h4⟩ := h
 cases hv
 obtain ⟨b, o, rfl, hb, hc⟩ := h4.resolve_left (by omega)
 refine ⟨b, o, rfl, hb, fun j v hv => ?_⟩
 have := hc _ _ (Dm sz L k j c v (fun c hc => by rw [hR.len c hc, hsz]) hk hv)
 rwa [← Nat.add_assoc] at this
theorem SlAt.ext {α : Type} {R : Rp α} {ok : Nat → Prop} {w w' : World} {v : Value} {l : List α} (h : SlAt R ok w v l) (k : Ext w w') : SlAt R ok w' v l := by
 obtain ⟨a, c, L, e, h1, h2⟩ := h
 exact ⟨a, c, L, e, h1.ext k, h2.ext k⟩
theorem sameReqs_ok (w : World) (v v' : Value) (l m : List Rqm) (hl : SlAt reqR A1 w v l) (hm : SlAt reqR A1 w v' m) : Fn Tryz.prog 60 [v, v'] w fun v w' => ∃ b : Bool, v = .bool b ∧ (b = true ↔ l = m) ∧ Ext w w' := by
 obtain ⟨a, c, L, rfl, hS, hF⟩ := hl
 obtain ⟨a', c', M, rfl, hS', hF'⟩ := hm
 have hlm : l.length ≤ 9223372036854775807 := by obtain ⟨_, _, hv, g1, g2, _⟩ := id hS; cases hv; omega
 refine Ae Tryz.func60 rfl Tryz.ntmps60 (Nat.le_of_ble_eq_true rfl) (by kernel_rfl) ?_
 repeat refine nx rfl ?_
 refine AA (AC (AB rfl ?_))
 repeat refine nx rfl ?_
 by_cases hlen : l.length = m.length
 ·refine AA (Aa rfl (Ap rfl (Aa rfl (Ap rfl (Di rfl rfl (by omega) ?_)))))
  repeat first | refine nx rfl ?_ | refine nf rfl ?_
  refine AA (AC (AH rfl ?_))
  repeat refine nx rfl ?_
  refine BN (α := Nat) (fun k => [(0, .slice a l.length c), (1, .slice a' m.length c'), (5, .int .i64 (k : Int))]) (fun k W => k ≤ l.length ∧ Ext w W ∧ ∀ j, j < k → l[j]? = m[j]?) (fun k => l.length - k) 0 ⟨rfl, rfl, rfl, trivial⟩ ⟨by omega, Ext.refl _, fun j hj => by omega⟩ ?_
  rintro k w3 f3 ⟨hk, k3, hj⟩
  repeat refine nx rfl ?_
  by_cases hlt : k < l.length
  ·obtain ⟨x, hx⟩ : ∃ x, l[k]? = some x := ⟨_, List.getElem?_eq_getElem hlt⟩
   obtain ⟨y, hy⟩ : ∃ y, m[k]? = some y := ⟨_, List.getElem?_eq_getElem (by omega)⟩
   obtain ⟨cx, hcx⟩ : ∃ cx, L[k]? = some cx := ⟨_, List.getElem?_eq_getElem (by rw [hF.1]; exact hlt)⟩
   obtain ⟨cy, hcy⟩ : ∃ cy, M[k]? = some cy := ⟨_, List.getElem?_eq_getElem (by rw [hF'.1]; omega)⟩
   have fx := reqR.ext (hF.2 k cx x hcx hx) k3
   have fy := reqR.ext (hF'.2 k cy y hcy hy) k3
   obtain ⟨bx, ox, rfl, _, hcellx⟩ := (hS.ext k3).recs (hF.ext k3) (sz := 8) rfl hcx hlt
   obtain ⟨by', oy, rfl, _, hcelly⟩ := (hS'.ext k3).recs (hF'.ext k3) (sz := 8) rfl hcy (by omega)
   have hlx : cx.length = 8 := reqR.len fx
   have hly : cy.length = 8 := reqR.len fy
   refine AA (AH rfl (Aa rfl (Ap rfl (BG rfl rfl (by omega) ?_))))
   repeat refine nx rfl ?_
   refine A3 (.read 0 (.read 1 (.read 2 (.read 3 (.read 4 (.read 5 (.read 6 (.read 7 (.alt 8 (.read 9 .done) .stop))))))))) BA (by kernel_rfl) (fun wd kd ed => ⟨Ext wd, ?_, ?_⟩)
   ·exact Ext.refl _
   refine D_R rfl rfl (fun W hW => by refine A0 ?_; exact AJ ⟨rfl, rfl, rfl⟩) ?_
   refine D_R rfl rfl (fun W hW => by refine A0 ?_; exact AJ ⟨rfl, rfl, rfl⟩) ?_
   refine D_R rfl rfl (fun W hW => by refine B7 (k := k) rfl rfl rfl (by omega) ?_; exact AJ ⟨rfl, rfl, rfl⟩) ?_
   refine D_R (v := .agg cx.toArray) rfl rfl (fun W hW => by refine Ad rfl hlx ((hcellx.keep kd (by simp)).keep hW (by simp)) ?_; exact AJ ⟨rfl, rfl, rfl⟩) ?_
   refine D_R rfl rfl (fun W hW => by refine A0 ?_; exact AJ ⟨rfl, rfl, rfl⟩) ?_
   refine D_R rfl rfl (fun W hW => by refine A0 ?_; exact AJ ⟨rfl, rfl, rfl⟩) ?_
   refine D_R rfl rfl (fun W hW => by refine B7 (k := k) rfl rfl rfl (by omega) ?_; exact AJ ⟨rfl, rfl, rfl⟩) ?_
   refine D_R (v := .agg cy.toArray) rfl rfl (fun W hW => by refine Ad rfl hly ((hcelly.keep kd (by simp)).keep hW (by simp)) ?_; exact AJ ⟨rfl, rfl, rfl⟩) ?_
   refine D_E rfl ?_
   refine AS (sameReq_ok wd cx cy x y (reqR.ext fx kd) (reqR.ext fy kd)) rfl ?_
   rintro _ w6 ⟨b, rfl, hb, k6⟩
   refine AJ ⟨Ext w6, fun W e => k6.trans e, Ext.refl _, ?_⟩
   refine D_R rfl rfl (fun W hW => AC (AB rfl Z3)) (Ay ?_)
   repeat refine nx rfl ?_
   refine AA (AB rfl (BB rfl (AJ ?_)))
   cases b with
   | true =>
    have hxy := hb.1 rfl
    subst hxy
    repeat first | refine nx rfl ?_ | refine nf rfl ?_
    (refine AA (AH rfl (BU rfl rfl (by first | exact Ao (by omega) (by omega) | exact Au (by omega) (by omega) | exact An (by omega) (by omega)) ?_)) <;> refine AC (AH rfl ?_))
    repeat refine nx rfl ?_
    refine ⟨k + 1, ⟨rfl, ⟨rfl, rfl, ?_, trivial⟩, ⟨by omega, (k3.trans kd).trans k6, fun j hjj => ?_⟩⟩, by omega⟩
    ·show Value.int .i64 ((k : Int) + 1) = _
     rw [Int.natCast_add]; rfl
    ·by_cases hjk : j = k
     ·subst hjk; rw [hx, hy]
     ·exact hj j (by omega)
   | false =>
    repeat refine nx rfl ?_
    refine AA (AC (AB rfl ?_))
    repeat refine nx rfl ?_
    refine AP rfl ⟨false, rfl, ?_, (k3.trans kd).trans k6⟩
    constructor
    ·intro h; cases h
    ·intro h
     exfalso
     have e1 : x = y := by rw [h, hy] at hx; exact (Option.some.inj hx).symm
     have := hb.2 e1
     cases this
  ·refine AA (AH rfl (Aa rfl (Ap rfl (BH rfl rfl (by omega) ?_))))
   repeat first | refine nx rfl ?_ | refine nf rfl ?_
   refine AA (AC (AB rfl ?_))
   repeat refine nx rfl ?_
   refine AP rfl ⟨true, rfl, ?_, k3⟩
   refine ⟨fun _ => List.ext_getElem? fun i => ?_, fun _ => rfl⟩
   by_cases hi : i < k
   ·exact hj i hi
   ·rw [List.getElem?_eq_none (by omega), List.getElem?_eq_none (by omega)]
 ·refine AA (Aa rfl (Ap rfl (Aa rfl (Ap rfl (W_neqT rfl rfl (by omega) ?_)))))
  repeat refine nx rfl ?_
  refine AA (AC (AB rfl ?_))
  repeat refine nx rfl ?_
  exact AP rfl ⟨false, rfl, ⟨fun h => (by cases h), fun h => absurd (by rw [h]) hlen⟩, Ext.refl _⟩
theorem sgn_same (x y : Sgn) : ∀ p ∈ [(0, 9), (1, 4), (2, 3)], ∃ a b, (Cm x)[p.1]? = some a ∧ (Cm y)[p.1]? = some b ∧ sameSort Tryz.prog p.2 a b := by
 intro p hp
 simp only [List.mem_cons, List.not_mem_nil, or_false] at hp
 rcases hp with rfl | rfl | rfl
 ·exact ⟨_, _, rfl, rfl, Tryz.underlying9⟩
 ·exact ⟨_, _, rfl, rfl, Tryz.underlying4⟩
 ·exact ⟨_, _, rfl, rfl, rfl, Tryz.underlying3⟩
theorem sgn_eq {x y : Sgn} (h : ∀ p ∈ ([(0, 9), (1, 4), (2, 3)] : List (Nat × TypeId)), (Cm x)[p.1]? = (Cm y)[p.1]?) : x = y := by
 have h0 := h (0, 9) (by simp)
 have h1 := h (1, 4) (by simp)
 have h2 := h (2, 3) (by simp)
 cases x; cases y
 simp [Cm] at h0 h1 h2
 simp [h0, h1, h2]
theorem sameSgn_ok (w : World) (v v' : Value) (l m : List Sgn) (hl : SlAt sgnR A1 w v l) (hm : SlAt sgnR A1 w v' m) : Fn Tryz.prog 59 [v, v'] w fun v w' => ∃ b : Bool, v = .bool b ∧ (b = true ↔ l = m) ∧ Ext w w' := by
 obtain ⟨a, c, L, rfl, hS, hF⟩ := hl
 obtain ⟨a', c', M, rfl, hS', hF'⟩ := hm
 have hlm : l.length ≤ 9223372036854775807 := by obtain ⟨_, _, hv, g1, g2, _⟩ := id hS; cases hv; omega
 refine Ae Tryz.func59 rfl Tryz.ntmps59 (Nat.le_of_ble_eq_true rfl) (by kernel_rfl) ?_
 repeat refine nx rfl ?_
 refine AA (AC (AB rfl ?_))
 repeat refine nx rfl ?_
 by_cases hlen : l.length = m.length
 ·refine AA (Aa rfl (Ap rfl (Aa rfl (Ap rfl (Di rfl rfl (by omega) ?_)))))
  repeat first | refine nx rfl ?_ | refine nf rfl ?_
  refine AA (AC (AH rfl ?_))
  repeat refine nx rfl ?_
  refine BN (α := Nat) (fun k => [(0, .slice a l.length c), (1, .slice a' m.length c'), (5, .int .i64 (k : Int))]) (fun k W => k ≤ l.length ∧ Ext w W ∧ ∀ j, j < k → l[j]? = m[j]?) (fun k => l.length - k) 0 ⟨rfl, rfl, rfl, trivial⟩ ⟨by omega, Ext.refl _, fun j hj => by omega⟩ ?_
  rintro k w3 f3 ⟨hk, k3, hj⟩
  repeat refine nx rfl ?_
  by_cases hlt : k < l.length
  ·obtain ⟨x, hx⟩ : ∃ x, l[k]? = some x := ⟨_, List.getElem?_eq_getElem hlt⟩
   obtain ⟨y, hy⟩ : ∃ y, m[k]? = some y := ⟨_, List.getElem?_eq_getElem (by omega)⟩
   obtain ⟨cx, hcx⟩ : ∃ cx, L[k]? = some cx := ⟨_, List.getElem?_eq_getElem (by rw [hF.1]; exact hlt)⟩
   obtain ⟨cy, hcy⟩ : ∃ cy, M[k]? = some cy := ⟨_, List.getElem?_eq_getElem (by rw [hF'.1]; omega)⟩
   obtain rfl : cx = Cm x := hF.2 k cx x hcx hx
   obtain rfl : cy = Cm y := hF'.2 k cy y hcy hy
   obtain ⟨bx, ox, rfl, _, hcellx⟩ := (hS.ext k3).recs (hF.ext k3) (sz := 3) rfl hcx hlt
   obtain ⟨by', oy, rfl, _, hcelly⟩ := (hS'.ext k3).recs (hF'.ext k3) (sz := 3) rfl hcy (by omega)
   refine AA (AH rfl (Aa rfl (Ap rfl (BG rfl rfl (by omega) ?_))))
   repeat refine nx rfl ?_
   refine A3 (.read 0 (.read 1 (.read 2 (.read 3 (.read 4 (.read 5 (.read 6 (.read 7 (.read 8 .done))))))))) BA (by kernel_rfl) (fun wd kd ed => ⟨fun W => W = wd, ?_, ?_⟩)
   ·rfl
   refine D_R rfl rfl (fun W hW => by refine A0 ?_; exact AJ ⟨rfl, rfl, rfl⟩) ?_
   refine D_R rfl rfl (fun W hW => by refine A0 ?_; exact AJ ⟨rfl, rfl, rfl⟩) ?_
   refine D_R rfl rfl (fun W hW => by refine B7 (k := k) rfl rfl rfl (by omega) ?_; exact AJ ⟨rfl, rfl, rfl⟩) ?_
   refine D_R (v := .agg (Cm x).toArray) rfl rfl (fun W hW => by subst hW; refine Ad rfl rfl (hcellx.keep kd (by simp)) ?_; exact AJ ⟨rfl, rfl, rfl⟩) ?_
   refine D_R rfl rfl (fun W hW => by refine A0 ?_; exact AJ ⟨rfl, rfl, rfl⟩) ?_
   refine D_R rfl rfl (fun W hW => by refine A0 ?_; exact AJ ⟨rfl, rfl, rfl⟩) ?_
   refine D_R rfl rfl (fun W hW => by refine B7 (k := k) rfl rfl rfl (by omega) ?_; exact AJ ⟨rfl, rfl, rfl⟩) ?_
   refine D_R (v := .agg (Cm y).toArray) rfl rfl (fun W hW => by subst hW; refine Ad rfl rfl (hcelly.keep kd (by simp)) ?_; exact AJ ⟨rfl, rfl, rfl⟩) ?_
   by_cases hxy : x = y
   ·subst hxy
    refine D_R (v := .bool false) rfl rfl (fun W hW => ?_) ?_
    ·refine W_flNeq (xs := Cm x) (ys := Cm x) rfl rfl (sgn_same x x) (fun r hr => ?_)
     obtain rfl : r = true := hr.2 fun _ _ => rfl
     exact AJ ⟨rfl, rfl, rfl⟩
    refine Ay ?_
    repeat first | refine nx rfl ?_ | refine nf rfl ?_
    (refine AA (AH rfl (BU rfl rfl (by first | exact Ao (by omega) (by omega) | exact Au (by omega) (by omega) | exact An (by omega) (by omega)) ?_)) <;> refine AC (AH rfl ?_))
    repeat refine nx rfl ?_
    refine ⟨k + 1, ⟨rfl, ⟨rfl, rfl, ?_, trivial⟩, ⟨by omega, k3.trans kd, fun j hjj => ?_⟩⟩, by omega⟩
    ·show Value.int .i64 ((k : Int) + 1) = _
     rw [Int.natCast_add]; rfl
    ·by_cases hjk : j = k
     ·subst hjk; rw [hx, hy]
     ·exact hj j (by omega)
   ·refine D_R (v := .bool true) rfl rfl (fun W hW => ?_) ?_
    ·refine W_flNeq (xs := Cm x) (ys := Cm y) rfl rfl (sgn_same x y) (fun r hr => ?_)
     obtain rfl : r = false := by
      cases r with
      | false => rfl
      | true => exact absurd (sgn_eq (hr.1 rfl)) hxy
     exact AJ ⟨rfl, rfl, rfl⟩
    refine Ay ?_
    repeat refine nx rfl ?_
    refine AA (AC (AB rfl ?_))
    repeat refine nx rfl ?_
    refine AP rfl ⟨false, rfl, ?_, k3.trans kd⟩
    constructor
    ·intro h; cases h
    ·intro h
     exfalso
     apply hxy
     rw [h, hy] at hx; exact (Option.some.inj hx).symm
  ·refine AA (AH rfl (Aa rfl (Ap rfl (BH rfl rfl (by omega) ?_))))
   repeat first | refine nx rfl ?_ | refine nf rfl ?_
   refine AA (AC (AB rfl ?_))
   repeat refine nx rfl ?_
   refine AP rfl ⟨true, rfl, ?_, k3⟩
   refine ⟨fun _ => List.ext_getElem? fun i => ?_, fun _ => rfl⟩
   by_cases hi : i < k
   ·exact hj i hi
   ·rw [List.getElem?_eq_none (by omega), List.getElem?_eq_none (by omega)]
 ·refine AA (Aa rfl (Ap rfl (Aa rfl (Ap rfl (W_neqT rfl rfl (by omega) ?_)))))
  repeat refine nx rfl ?_
  refine AA (AC (AB rfl ?_))
  repeat refine nx rfl ?_
  exact AP rfl ⟨false, rfl, ⟨fun h => (by cases h), fun h => absurd (by rw [h]) hlen⟩, Ext.refl _⟩
theorem spc_eq {r s : Spc} : r = s ↔ r.sigs = s.sigs ∧ r.reqs = s.reqs := by
 obtain ⟨a, b⟩ := r; obtain ⟨a', b'⟩ := s; simp
theorem sameSpec_ok (w : World) (c d : List Value) (r s : Spc) (hr : spcR.fits A1 w c r) (hs : spcR.fits A1 w d s) : Fn Tryz.prog 25 [.agg c.toArray, .agg d.toArray] w fun v w' => ∃ b : Bool, v = .bool b ∧ (b = true ↔ r = s) ∧ Ext w w' := by
 obtain ⟨sv, rv, rfl, h1, h2⟩ := hr
 obtain ⟨sv', rv', rfl, h1', h2'⟩ := hs
 have e1 := h1
 have e2 := h2
 have e1' := h1'
 have e2' := h2'
 obtain ⟨_, _, _, rfl, _⟩ := e1
 obtain ⟨_, _, _, rfl, _⟩ := e2
 obtain ⟨_, _, _, rfl, _⟩ := e1'
 obtain ⟨_, _, _, rfl, _⟩ := e2'
 refine Ae Tryz.func25 rfl Tryz.ntmps25 (Nat.le_of_ble_eq_true rfl) (by kernel_rfl) ?_
 repeat refine nx rfl ?_
 (refine AA ?_; refine Bh (L := [_, _]) rfl (fun w1 n1 => ?_))
 refine Bh (L := [_, _]) rfl (fun w2 n2 => ?_)
 have a2 := n1.blk.keep n2.keep (by simp)
 have b2 := n2.blk
 have k2 : Ext w w2 := n1.keep.trans n2.keep
 refine AC (AB rfl ?_)
 repeat refine nx rfl ?_
 (refine AA (AD rfl (AF rfl (Blk.cell (by assumption) (by rfl)) ?_)) <;> refine AD rfl (AF rfl (Blk.cell (by assumption) (by rfl)) ?_))
 refine AS (sameSgn_ok w2 _ _ _ _ (h1.ext k2) (h1'.ext k2)) rfl ?_
 rintro _ w3 ⟨b, rfl, hb, k3⟩
 have a3 := a2.keep k3 (by simp)
 have b3 := b2.keep k3 (by simp)
 cases b with
 | true =>
  (refine AB rfl (AE rfl (AD rfl (AE rfl (AF rfl (Blk.cell (by assumption) (by rfl)) ?_)))) <;> refine AE rfl (AD rfl (AE rfl (AF rfl (Blk.cell (by assumption) (by rfl)) ?_))))
  refine AE rfl (AS (sameReqs_ok w3 _ _ _ _ ((h2.ext k2).ext k3) ((h2'.ext k2).ext k3)) rfl ?_)
  rintro _ w4 ⟨b, rfl, hb2, k4⟩
  refine AL rfl (AB rfl (AC (AB rfl ?_)))
  repeat refine nx rfl ?_
  exact AP rfl ⟨b, rfl, by rw [hb2, spc_eq]; exact ⟨fun h => ⟨hb.1 rfl, h⟩, fun h => h.2⟩, (k2.trans k3).trans k4⟩
 | false =>
  refine AB rfl (AI rfl (AI rfl (AI rfl (AI rfl ?_))))
  refine AI rfl (AN rfl (AB rfl (AC (AB rfl ?_))))
  repeat refine nx rfl ?_
  refine AP rfl ⟨false, rfl, ?_, k2.trans k3⟩
  rw [spc_eq]
  exact ⟨fun h => (by cases h), fun h => absurd (hb.2 h.1) (by simp)⟩
theorem edt_eq {r s : Edt} : r = s ↔ r.kind = s.kind ∧ r.req = s.req := by
 obtain ⟨a, b⟩ := r; obtain ⟨a', b'⟩ := s; simp
theorem sameEdit_ok (w : World) (c d : List Value) (r s : Edt) (hr : edtR.fits A1 w c r) (hs : edtR.fits A1 w d s) : Fn Tryz.prog 28 [.agg c.toArray, .agg d.toArray] w fun v w' => ∃ b : Bool, v = .bool b ∧ (b = true ↔ r = s) ∧ Ext w w' := by
 obtain ⟨c, rfl, hcr⟩ := hr
 obtain ⟨d, rfl, hdr⟩ := hs
 have hcl : c.length = 8 := reqR.len hcr
 have hdl : d.length = 8 := reqR.len hdr
 refine Ae Tryz.func28 rfl Tryz.ntmps28 (Nat.le_of_ble_eq_true rfl) (by kernel_rfl) ?_
 repeat refine nx rfl ?_
 (refine AA ?_; refine Bh (L := .int .i64 r.kind :: c) rfl (fun w1 n1 => ?_))
 refine Bh (L := .int .i64 s.kind :: d) rfl (fun w2 n2 => ?_)
 have a2 := n1.blk.keep n2.keep (by simp)
 have b2 := n2.blk
 have k2 : Ext w w2 := n1.keep.trans n2.keep
 have ca : Cells w2 w.heap.size 1 c := by
  have := a2.cells.part 1 8
  simp only [List.drop_succ_cons, List.drop_zero, Nat.zero_add] at this
  rwa [List.take_of_length_le (by omega)] at this
 have cb : Cells w2 w1.heap.size 1 d := by
  have := b2.cells.part 1 8
  simp only [List.drop_succ_cons, List.drop_zero, Nat.zero_add] at this
  rwa [List.take_of_length_le (by omega)] at this
 refine AC (AB rfl ?_)
 repeat refine nx rfl ?_
 by_cases hk : r.kind = s.kind
 ·(refine AA (AD rfl (AF rfl (Blk.cell (by assumption) (by rfl)) ?_)) <;> refine AD rfl (AF rfl (Blk.cell (by assumption) (by rfl)) ?_) <;> refine At rfl rfl (by omega) (AB rfl (AE rfl (AD rfl ?_))))
  refine AE rfl (Ad (L := c) rfl hcl ca ?_)
  refine AE rfl (AD rfl ?_)
  refine AE rfl (Ad (L := d) rfl hdl cb ?_)
  refine AE rfl (AS (sameReq_ok w2 c d r.req s.req (reqR.ext hcr k2) (reqR.ext hdr k2)) rfl ?_)
  rintro _ w3 ⟨b, rfl, hb, k3⟩
  refine AL rfl (AB rfl (AC (AB rfl ?_)))
  repeat refine nx rfl ?_
  exact AP rfl ⟨b, rfl, by rw [hb, edt_eq]; exact ⟨fun h => ⟨hk, h⟩, fun h => h.2⟩, k2.trans k3⟩
 ·(refine AA (AD rfl (AF rfl (Blk.cell (by assumption) (by rfl)) ?_)) <;> refine AD rfl (AF rfl (Blk.cell (by assumption) (by rfl)) ?_) <;> refine AQ rfl rfl (by omega) (AB rfl (AI rfl ?_)))
  refine AI rfl (AI rfl (AI rfl (AI rfl (AN rfl (AB rfl (AC (AB rfl ?_)))))))
  repeat refine nx rfl ?_
  refine AP rfl ⟨false, rfl, ?_, k2⟩
  rw [edt_eq]
  exact ⟨fun h => (by cases h), fun h => absurd h.1 hk⟩
end Go.Proofs.YtfcgdbmoncnibaaGreatDoor
namespace Go.Proofs.YtfcgdbmoncnibaaGreatDoor
open Go.RowKit
set_option linter.unusedVariables false
variable {mk : Prop} [MK mk]
theorem infixes_ok (w : World) : Fn Tryz.prog 90 [] w fun v w' => ∃ m, v = .map (some m) ∧ w.heap.size ≤ m ∧ Ext w w' ∧ SMap w' m (tabV infixT) := by
 refine Ae Tryz.func90 rfl Tryz.ntmps90 (Nat.le_of_ble_eq_true rfl) (by kernel_rfl) ?_
 repeat refine nx rfl ?_
 refine AA (AC (M_map rfl ?_))
 repeat refine nx rfl ?_
 refine AA ?_
 refine W_makeMapS (fun w1 k1 z1 b1 => ?_)
 refine Af (by rfl) (by rfl) ?_
 refine CQ (x := [85]) (y := oprV ⟨9, 0, 0⟩) rfl rfl rfl b1 rfl (fun w2 k2 z2 b2 => ?_)
 refine Af (by rfl) (by rfl) ?_
 refine CQ (x := [82]) (y := oprV ⟨10, 0, 0⟩) rfl rfl rfl b2 rfl (fun w3 k3 z3 b3 => ?_)
 refine Af (by rfl) (by rfl) ?_
 refine CQ (x := [83]) (y := oprV ⟨16, 16, 0⟩) rfl rfl rfl b3 rfl (fun w4 k4 z4 b4 => ?_)
 refine Af (by rfl) (by rfl) ?_
 refine CQ (x := [84]) (y := oprV ⟨17, 17, 1⟩) rfl rfl rfl b4 rfl (fun w5 k5 z5 b5 => ?_)
 refine M_map rfl (AC (M_map rfl ?_))
 repeat refine nx rfl ?_
 exact AP rfl ⟨w.heap.size, rfl, Nat.le_refl _, (((k1.keep k2 (by simp)).keep k3 (by simp)).keep k4 (by simp)).keep k5 (by simp), b5⟩
theorem prefixes_ok (w : World) : Fn Tryz.prog 89 [] w fun v w' => ∃ m, v = .map (some m) ∧ w.heap.size ≤ m ∧ Ext w w' ∧ SMap w' m (tabV prefixT) := by
 refine Ae Tryz.func89 rfl Tryz.ntmps89 (Nat.le_of_ble_eq_true rfl) (by kernel_rfl) ?_
 repeat refine nx rfl ?_
 refine AA (AC (M_map rfl ?_))
 repeat refine nx rfl ?_
 refine AA ?_
 refine W_makeMapS (fun w1 k1 z1 b1 => ?_)
 refine Af (by rfl) (by rfl) ?_
 refine CQ (x := [33]) (y := oprV ⟨4, 0, 0⟩) rfl rfl rfl b1 rfl (fun w2 k2 z2 b2 => ?_)
 refine Af (by rfl) (by rfl) ?_
 refine CQ (x := [88]) (y := oprV ⟨8, 0, 0⟩) rfl rfl rfl b2 rfl (fun w3 k3 z3 b3 => ?_)
 refine Af (by rfl) (by rfl) ?_
 refine CQ (x := [89]) (y := oprV ⟨15, 0, 0⟩) rfl rfl rfl b3 rfl (fun w4 k4 z4 b4 => ?_)
 refine Af (by rfl) (by rfl) ?_
 refine CQ (x := [90]) (y := oprV ⟨15, 0, 1⟩) rfl rfl rfl b4 rfl (fun w5 k5 z5 b5 => ?_)
 refine Af (by rfl) (by rfl) ?_
 refine CQ (x := [79]) (y := oprV ⟨18, 0, 0⟩) rfl rfl rfl b5 rfl (fun w6 k6 z6 b6 => ?_)
 refine Af (by rfl) (by rfl) ?_
 refine CQ (x := [72]) (y := oprV ⟨19, 0, 0⟩) rfl rfl rfl b6 rfl (fun w7 k7 z7 b7 => ?_)
 refine Af (by rfl) (by rfl) ?_
 refine CQ (x := [70]) (y := oprV ⟨11, 13, 0⟩) rfl rfl rfl b7 rfl (fun w8 k8 z8 b8 => ?_)
 refine Af (by rfl) (by rfl) ?_
 refine CQ (x := [71]) (y := oprV ⟨12, 14, 0⟩) rfl rfl rfl b8 rfl (fun w9 k9 z9 b9 => ?_)
 refine M_map rfl (AC (M_map rfl ?_))
 repeat refine nx rfl ?_
 exact AP rfl ⟨w.heap.size, rfl, Nat.le_refl _, (((((((k1.keep k2 (by simp)).keep k3 (by simp)).keep k4 (by simp)).keep k5 (by simp)).keep k6 (by simp)).keep k7 (by simp)).keep k8 (by simp)).keep k9 (by simp), b9⟩
theorem takeWhile_all {p : UInt8 → Bool} : ∀ {l : List UInt8}, (l.takeWhile p).length = l.length → ∀ c ∈ l, p c = true
 | [], _, c, hc => by cases hc
 | x :: l, h, c, hc => by
  rw [List.takeWhile_cons] at h
  cases hp : p x with
  | false => rw [hp] at h; simp at h
  | true =>
   rw [hp] at h
   simp at h
   rcases List.mem_cons.1 hc with rfl | hc
   ·exact hp
   ·exact takeWhile_all h c hc
theorem Alone.wf {k : Int} {y : List UInt8} (h : Alone k y) : k = 2 → 1 ≤ y.length ∧ y.length ≤ 4 ∧ ∀ c ∈ y, Aq c = true := by
 rintro rfl
 obtain ⟨h1, h2, h3⟩ := h
 refine ⟨h1, ?_⟩
 unfold BR at h3
 split at h3
 ·simp [blankM] at h3
 ·simp [commM] at h3
 ·unfold Dn at h3
  split at h3
  ·cases h3
  ·have := (addM_le h3).1; simp at this
 ·unfold Dg at h3
  split at h3
  ·cases h3
  ·rename_i hb
   have e := Cu h3
   have hd : ((y.takeWhile Aq).length) = y.length := by simpa [Ak] using e.symm
   refine ⟨?_, takeWhile_all hd⟩
   have hb' : BM y 0 = false := by simpa using hb
   unfold BM at hb'
   rw [← e] at hb'
   simp at hb'
   omega
 ·unfold symM at h3
  split at h3
  ·have := (addM_le h3).1; simp at this
  ·cases h3
 ·cases h3
theorem Reach1.cap {t : List UInt8} {a b : Nat} {ts tsb : List Tok} (h : Reach1 t a ts b tsb) (hc : ts.length ≤ 2000) : tsb.length ≤ 2000 := by
 induction h with
 | refl => exact hc
 | step h hs hr ih =>
  rename_i a a1 b ts ts1 tsb
  refine ih ?_
  rcases step_shape hs with rfl | ⟨k, rfl⟩
  ·exact hc
  ·have : ts.length ≠ 2000 := by
    intro e
    unfold BR at hs
    split at hs
    ·simp [blankM] at hs
    ·simp [commM] at hs
    ·unfold Dn at hs
     split at hs
     ·cases hs
     ·exact (addM_le hs).2 e
    ·unfold Dg at hs
     split at hs
     ·cases hs
     ·exact (addM_le hs).2 e
    ·unfold symM at hs
     split at hs
     ·exact (addM_le hs).2 e
     ·cases hs
    ·cases hs
   simp; omega
theorem lexM_toks {t : List UInt8} {ts : List Tok} (h : DE t = .ok ts) : t.length ≤ 6000 ∧ ts.length ≤ 2000 ∧ ∀ x ∈ ts, TokWf x := by
 obtain ⟨hl, hr⟩ := lexM_ok h
 exact ⟨hl, hr.cap (by simp), fun x hx => ((hr.alone (Nat.le_refl _) (fun x hx => by cases hx)) x hx).wf⟩
end Go.Proofs.YtfcgdbmoncnibaaGreatDoor
namespace Go.Proofs.YtfcgdbmoncnibaaGreatDoor
open Go.RowKit
set_option linter.unusedVariables false
variable {mk : Prop} [MK mk]
theorem recRet_F (w : World) (c2 c3 c4 : Nat) : CallsDIn Fence.wide 0 Tryz.prog 104 ([] ++ [pt c2, pt c3, pt c4] : List Value).toArray .returning w (fun e u' w' => match e with | .returned _ => u' = .returning ∧ Ext w w' | _ => False) := by
 refine CY (u1 := .returning) (v0 := .nilIface) (G := fun _ w' => Ext w w') (args := [pt c2, pt c3, pt c4]) Tryz.func104 rfl Tryz.ntmps104 (by simp) (by decide) (by kernel_rfl) (by kernel_rfl) (.inl ⟨rfl, rfl, rfl⟩) ?_
 refine W_assert_nil (z := .agg #[.int .i64 0, .int .i64 0]) rfl (by kernel_rfl) ?_
 refine Bf rfl (Ab rfl rfl (Ab rfl rfl ?_))
 refine A7 (cs := [.int .i64 0, .int .i64 0]) rfl rfl (by rfl) (A5 rfl) (fun w2 n2 => ?_)
 refine AC (AB rfl ?_)
 repeat refine nx rfl ?_
 refine AA (AB rfl ?_)
 repeat first | refine nx rfl ?_ | refine nf rfl ?_
 exact Az rfl n2.keep
theorem recPan_F (w : World) (c2 c3 c4 : Nat) (L2 : List Value) (x3 x4 : Value) (e q : Int) (d2 : Blk w c2 24 L2) (hL2 : L2.length = ([.int .i64 0, AK [], .int .i64 0, .int .i64 0, .slice none 0 0] : List Value).length) (d3 : Blk w c3 44 [x3]) (d4 : Blk w c4 3 [x4]) (h23 : c2 ≠ c3) (h24 : c2 ≠ c4) (h34 : c3 ≠ c4) :
  CallsDIn Fence.wide 0 Tryz.prog 104 ([] ++ [pt c2, pt c3, pt c4] : List Value).toArray (.panicking [{ v := .iface 145 (.agg #[.int .i64 e, .int .i64 q]), recovered := false }]) w
   (fun en u' w' => match en with | .returned _ => u' = .panicking [{ v := .iface 145 (.agg #[.int .i64 e, .int .i64 q]), recovered := true }] ∧ (Keep [c2, c3, c4] w w' ∧ Blk w' c2 24 [.int .i64 0, AK [], .int .i64 0, .int .i64 0, .slice none 0 0] ∧ Blk w' c3 44 [.int .i64 e] ∧ Blk w' c4 3 [.int .i64 q]) | _ => False) := by
 have l2 := d2.lt
 have l3 := d3.lt
 have l4 := d4.lt
 refine CY (u1 := .panicking [{ v := .iface 145 (.agg #[.int .i64 e, .int .i64 q]), recovered := true }]) (v0 := .iface 145 (.agg #[.int .i64 e, .int .i64 q]))
  (G := fun _ w' => Keep [c2, c3, c4] w w' ∧ Blk w' c2 24 [.int .i64 0, AK [], .int .i64 0, .int .i64 0, .slice none 0 0] ∧ Blk w' c3 44 [.int .i64 e] ∧ Blk w' c4 3 [.int .i64 q]) (args := [pt c2, pt c3, pt c4]) Tryz.func104 rfl Tryz.ntmps104 (by simp) (by decide) (by kernel_rfl) (by kernel_rfl) (.inr ⟨_, rfl, rfl, rfl⟩) ?_
 refine W_assert_yes rfl ?_
 refine Bf rfl (Ab rfl rfl (Ab rfl rfl ?_))
 refine A7 (cs := [.int .i64 e, .int .i64 q]) rfl rfl (by rfl) (A5 rfl) (fun w2 n2 => ?_)
 have b2 := n2.blk
 have z2 := n2.size
 refine AC (AB rfl ?_)
 repeat refine nx rfl ?_
 refine AA (AB rfl ?_)
 repeat refine nx rfl ?_
 refine AA ?_
 refine Av (fun w3 n3 => ?_)
 have z3 := n3.size
 have b3 : Blk w3 w2.heap.size 24 [.int .i64 0, AK [], .int .i64 0, .int .i64 0, .slice none 0 0] := n3.blk
 replace b2 := b2.keep n3.keep (by simp)
 have k3 : Ext w w3 := n2.keep.trans n3.keep
 replace d2 := d2.keep k3 (by simp)
 replace d3 := d3.keep k3 (by simp)
 replace d4 := d4.keep k3 (by simp)
 repeat refine nx rfl ?_
 refine A3 (.read 0 (.read 1 (.read 2 (.read 3 (.read 4 (.alt 5 (.alt 6 (.alt 7 .done .stop) .stop) .stop)))))) BA (by kernel_rfl) (fun wd kd ed => ⟨fun W => W.cell? ⟨w.heap.size, 0, none⟩ = some (.int .i64 e) ∧ W.cell? ⟨w.heap.size, 1, none⟩ = some (.int .i64 q) ∧ Cells W w2.heap.size 0 [.int .i64 0, AK [], .int .i64 0, .int .i64 0, .slice none 0 0], ?_, ?_⟩)
 ·exact ⟨(b2.keep kd (by simp)).cell rfl, (b2.keep kd (by simp)).cell rfl, (b3.keep kd (by simp)).cells⟩
 have fc0 : ∀ W : World, (W.cell? ⟨w.heap.size, 0, none⟩ = some (.int .i64 e) ∧ W.cell? ⟨w.heap.size, 1, none⟩ = some (.int .i64 q) ∧ Cells W w2.heap.size 0 [.int .i64 0, AK [], .int .i64 0, .int .i64 0, .slice none 0 0]) → W.cell? ⟨w.heap.size, 0, none⟩ = some (.int .i64 e) := fun W h => h.1
 have fc1 : ∀ W : World, (W.cell? ⟨w.heap.size, 0, none⟩ = some (.int .i64 e) ∧ W.cell? ⟨w.heap.size, 1, none⟩ = some (.int .i64 q) ∧ Cells W w2.heap.size 0 [.int .i64 0, AK [], .int .i64 0, .int .i64 0, .slice none 0 0]) → W.cell? ⟨w.heap.size, 1, none⟩ = some (.int .i64 q) := fun W h => h.2.1
 have fc2 : ∀ W : World, (W.cell? ⟨w.heap.size, 0, none⟩ = some (.int .i64 e) ∧ W.cell? ⟨w.heap.size, 1, none⟩ = some (.int .i64 q) ∧ Cells W w2.heap.size 0 [.int .i64 0, AK [], .int .i64 0, .int .i64 0, .slice none 0 0]) → Cells W w2.heap.size 0 [.int .i64 0, AK [], .int .i64 0, .int .i64 0, .slice none 0 0] := fun W h => h.2.2
 replace b2 := b2.keep kd (by simp)
 replace b3 := b3.keep kd (by simp)
 replace d2 := d2.keep kd (by simp)
 replace d3 := d3.keep kd (by simp)
 replace d4 := d4.keep kd (by simp)
 have k : Keep [c2, c3, c4] w wd := (k3.trans kd).any
 ((apply D_R rfl rfl; (intro W hW; refine Ad rfl (by rfl) (fc2 W hW) ?_; exact Z3)) <;> refine D_R rfl rfl (fun W hW => AD rfl Z3) (D_R rfl rfl (fun W hW => AF rfl (fc0 W hW) Z3) (D_R rfl rfl (fun W hW => AD rfl Z3) (D_R rfl rfl (fun W hW => AF rfl (fc1 W hW) Z3) ?_))))
 refine D_E rfl ?_
 refine AZ (cs := [.int .i64 0, AK [], .int .i64 0, .int .i64 0, .slice none 0 0]) rfl rfl rfl (A5 rfl) d2 (by rw [hL2]; simp) (fun W p => ?_)
 have bb := p.blk
 rw [Bc L2 [.int .i64 0, AK [], .int .i64 0, .int .i64 0, .slice none 0 0] (by rw [hL2])] at bb
 replace d3 := d3.keep p.keep (by simp; omega)
 replace d4 := d4.keep p.keep (by simp; omega)
 replace b2 := b2.keep p.keep (by simp; omega)
 replace b3 := b3.keep p.keep (by simp; omega)
 replace k := k.trans p.keep (by simp)
 clear d2 p
 have d2 := bb
 refine AJ ⟨_, fun _ h => h, ⟨b2.cell rfl, b2.cell rfl, b3.cells⟩, ?_⟩
 refine D_E rfl ?_
 refine Ah rfl rfl rfl d3 (by simp) (fun W2 p => ?_)
 have bb3 := p.blk
 replace d2 := d2.keep p.keep (by simp; omega)
 replace d4 := d4.keep p.keep (by simp; omega)
 replace b2 := b2.keep p.keep (by simp; omega)
 replace b3 := b3.keep p.keep (by simp; omega)
 replace k := k.trans p.keep (by simp)
 clear d3 p
 refine AJ ⟨_, fun _ h => h, ⟨b2.cell rfl, b2.cell rfl, b3.cells⟩, ?_⟩
 refine D_E rfl ?_
 refine Ah rfl rfl rfl d4 (by simp) (fun W3 p => ?_)
 have bb4 := p.blk
 replace d2 := d2.keep p.keep (by simp; omega)
 replace bb3 := bb3.keep p.keep (by simp; omega)
 replace b2 := b2.keep p.keep (by simp; omega)
 replace b3 := b3.keep p.keep (by simp; omega)
 replace k := k.trans p.keep (by simp)
 refine AJ ⟨_, fun _ h => h, ⟨b2.cell rfl, b2.cell rfl, b3.cells⟩, ?_⟩
 refine Ay ?_
 repeat refine nx rfl ?_
 exact Az rfl ⟨k, d2, bb3, bb4⟩
theorem recRet_S (w : World) (c2 c3 c4 : Nat) : CallsDIn Fence.wide 0 Tryz.prog 88 ([] ++ [pt c2, pt c3, pt c4] : List Value).toArray .returning w (fun e u' w' => match e with | .returned _ => u' = .returning ∧ Ext w w' | _ => False) := by
 refine CY (u1 := .returning) (v0 := .nilIface) (G := fun _ w' => Ext w w') (args := [pt c2, pt c3, pt c4]) Tryz.func88 rfl Tryz.ntmps88 (by simp) (by decide) (by kernel_rfl) (by kernel_rfl) (.inl ⟨rfl, rfl, rfl⟩) ?_
 refine W_assert_nil (z := .agg #[.int .i64 0, .int .i64 0]) rfl (by kernel_rfl) ?_
 refine Bf rfl (Ab rfl rfl (Ab rfl rfl ?_))
 refine A7 (cs := [.int .i64 0, .int .i64 0]) rfl rfl (by rfl) (A5 rfl) (fun w2 n2 => ?_)
 refine AC (AB rfl ?_)
 repeat refine nx rfl ?_
 refine AA (AB rfl ?_)
 repeat first | refine nx rfl ?_ | refine nf rfl ?_
 exact Az rfl n2.keep
theorem recPan_S (w : World) (c2 c3 c4 : Nat) (L2 : List Value) (x3 x4 : Value) (e q : Int) (d2 : Blk w c2 28 L2) (hL2 : L2.length = ([.slice none 0 0, .slice none 0 0] : List Value).length) (d3 : Blk w c3 44 [x3]) (d4 : Blk w c4 3 [x4]) (h23 : c2 ≠ c3) (h24 : c2 ≠ c4) (h34 : c3 ≠ c4) :
  CallsDIn Fence.wide 0 Tryz.prog 88 ([] ++ [pt c2, pt c3, pt c4] : List Value).toArray (.panicking [{ v := .iface 145 (.agg #[.int .i64 e, .int .i64 q]), recovered := false }]) w
   (fun en u' w' => match en with | .returned _ => u' = .panicking [{ v := .iface 145 (.agg #[.int .i64 e, .int .i64 q]), recovered := true }] ∧ (Keep [c2, c3, c4] w w' ∧ Blk w' c2 28 [.slice none 0 0, .slice none 0 0] ∧ Blk w' c3 44 [.int .i64 e] ∧ Blk w' c4 3 [.int .i64 q]) | _ => False) := by
 have l2 := d2.lt
 have l3 := d3.lt
 have l4 := d4.lt
 refine CY (u1 := .panicking [{ v := .iface 145 (.agg #[.int .i64 e, .int .i64 q]), recovered := true }]) (v0 := .iface 145 (.agg #[.int .i64 e, .int .i64 q]))
  (G := fun _ w' => Keep [c2, c3, c4] w w' ∧ Blk w' c2 28 [.slice none 0 0, .slice none 0 0] ∧ Blk w' c3 44 [.int .i64 e] ∧ Blk w' c4 3 [.int .i64 q]) (args := [pt c2, pt c3, pt c4]) Tryz.func88 rfl Tryz.ntmps88 (by simp) (by decide) (by kernel_rfl) (by kernel_rfl) (.inr ⟨_, rfl, rfl, rfl⟩) ?_
 refine W_assert_yes rfl ?_
 refine Bf rfl (Ab rfl rfl (Ab rfl rfl ?_))
 refine A7 (cs := [.int .i64 e, .int .i64 q]) rfl rfl (by rfl) (A5 rfl) (fun w2 n2 => ?_)
 have b2 := n2.blk
 have z2 := n2.size
 refine AC (AB rfl ?_)
 repeat refine nx rfl ?_
 refine AA (AB rfl ?_)
 repeat refine nx rfl ?_
 refine AA ?_
 refine Av (fun w3 n3 => ?_)
 have z3 := n3.size
 have b3 : Blk w3 w2.heap.size 28 [.slice none 0 0, .slice none 0 0] := n3.blk
 replace b2 := b2.keep n3.keep (by simp)
 have k3 : Ext w w3 := n2.keep.trans n3.keep
 replace d2 := d2.keep k3 (by simp)
 replace d3 := d3.keep k3 (by simp)
 replace d4 := d4.keep k3 (by simp)
 repeat refine nx rfl ?_
 refine A3 (.read 0 (.read 1 (.read 2 (.read 3 (.read 4 (.alt 5 (.alt 6 (.alt 7 .done .stop) .stop) .stop)))))) BA (by kernel_rfl) (fun wd kd ed => ⟨fun W => W.cell? ⟨w.heap.size, 0, none⟩ = some (.int .i64 e) ∧ W.cell? ⟨w.heap.size, 1, none⟩ = some (.int .i64 q) ∧ Cells W w2.heap.size 0 [.slice none 0 0, .slice none 0 0], ?_, ?_⟩)
 ·exact ⟨(b2.keep kd (by simp)).cell rfl, (b2.keep kd (by simp)).cell rfl, (b3.keep kd (by simp)).cells⟩
 have fc0 : ∀ W : World, (W.cell? ⟨w.heap.size, 0, none⟩ = some (.int .i64 e) ∧ W.cell? ⟨w.heap.size, 1, none⟩ = some (.int .i64 q) ∧ Cells W w2.heap.size 0 [.slice none 0 0, .slice none 0 0]) → W.cell? ⟨w.heap.size, 0, none⟩ = some (.int .i64 e) := fun W h => h.1
 have fc1 : ∀ W : World, (W.cell? ⟨w.heap.size, 0, none⟩ = some (.int .i64 e) ∧ W.cell? ⟨w.heap.size, 1, none⟩ = some (.int .i64 q) ∧ Cells W w2.heap.size 0 [.slice none 0 0, .slice none 0 0]) → W.cell? ⟨w.heap.size, 1, none⟩ = some (.int .i64 q) := fun W h => h.2.1
 have fc2 : ∀ W : World, (W.cell? ⟨w.heap.size, 0, none⟩ = some (.int .i64 e) ∧ W.cell? ⟨w.heap.size, 1, none⟩ = some (.int .i64 q) ∧ Cells W w2.heap.size 0 [.slice none 0 0, .slice none 0 0]) → Cells W w2.heap.size 0 [.slice none 0 0, .slice none 0 0] := fun W h => h.2.2
 replace b2 := b2.keep kd (by simp)
 replace b3 := b3.keep kd (by simp)
 replace d2 := d2.keep kd (by simp)
 replace d3 := d3.keep kd (by simp)
 replace d4 := d4.keep kd (by simp)
 have k : Keep [c2, c3, c4] w wd := (k3.trans kd).any
 ((apply D_R rfl rfl; (intro W hW; refine Ad rfl (by rfl) (fc2 W hW) ?_; exact Z3)) <;> refine D_R rfl rfl (fun W hW => AD rfl Z3) (D_R rfl rfl (fun W hW => AF rfl (fc0 W hW) Z3) (D_R rfl rfl (fun W hW => AD rfl Z3) (D_R rfl rfl (fun W hW => AF rfl (fc1 W hW) Z3) ?_))))
 refine D_E rfl ?_
 refine AZ (cs := [.slice none 0 0, .slice none 0 0]) rfl rfl rfl (A5 rfl) d2 (by rw [hL2]; simp) (fun W p => ?_)
 have bb := p.blk
 rw [Bc L2 [.slice none 0 0, .slice none 0 0] (by rw [hL2])] at bb
 replace d3 := d3.keep p.keep (by simp; omega)
 replace d4 := d4.keep p.keep (by simp; omega)
 replace b2 := b2.keep p.keep (by simp; omega)
 replace b3 := b3.keep p.keep (by simp; omega)
 replace k := k.trans p.keep (by simp)
 clear d2 p
 have d2 := bb
 refine AJ ⟨_, fun _ h => h, ⟨b2.cell rfl, b2.cell rfl, b3.cells⟩, ?_⟩
 refine D_E rfl ?_
 refine Ah rfl rfl rfl d3 (by simp) (fun W2 p => ?_)
 have bb3 := p.blk
 replace d2 := d2.keep p.keep (by simp; omega)
 replace d4 := d4.keep p.keep (by simp; omega)
 replace b2 := b2.keep p.keep (by simp; omega)
 replace b3 := b3.keep p.keep (by simp; omega)
 replace k := k.trans p.keep (by simp)
 clear d3 p
 refine AJ ⟨_, fun _ h => h, ⟨b2.cell rfl, b2.cell rfl, b3.cells⟩, ?_⟩
 refine D_E rfl ?_
 refine Ah rfl rfl rfl d4 (by simp) (fun W3 p => ?_)
 have bb4 := p.blk
 replace d2 := d2.keep p.keep (by simp; omega)
 replace bb3 := bb3.keep p.keep (by simp; omega)
 replace b2 := b2.keep p.keep (by simp; omega)
 replace b3 := b3.keep p.keep (by simp; omega)
 replace k := k.trans p.keep (by simp)
 refine AJ ⟨_, fun _ h => h, ⟨b2.cell rfl, b2.cell rfl, b3.cells⟩, ?_⟩
 refine Ay ?_
 repeat refine nx rfl ?_
 exact Az rfl ⟨k, d2, bb3, bb4⟩
theorem recRet_D (w : World) (c2 c3 c4 : Nat) : CallsDIn Fence.wide 0 Tryz.prog 107 ([] ++ [pt c2, pt c3, pt c4] : List Value).toArray .returning w (fun e u' w' => match e with | .returned _ => u' = .returning ∧ Ext w w' | _ => False) := by
 refine CY (u1 := .returning) (v0 := .nilIface) (G := fun _ w' => Ext w w') (args := [pt c2, pt c3, pt c4]) Tryz.func107 rfl Tryz.ntmps107 (by simp) (by decide) (by kernel_rfl) (by kernel_rfl) (.inl ⟨rfl, rfl, rfl⟩) ?_
 refine W_assert_nil (z := .agg #[.int .i64 0, .int .i64 0]) rfl (by kernel_rfl) ?_
 refine Bf rfl (Ab rfl rfl (Ab rfl rfl ?_))
 refine A7 (cs := [.int .i64 0, .int .i64 0]) rfl rfl (by rfl) (A5 rfl) (fun w2 n2 => ?_)
 refine AC (AB rfl ?_)
 repeat refine nx rfl ?_
 refine AA (AB rfl ?_)
 repeat first | refine nx rfl ?_ | refine nf rfl ?_
 exact Az rfl n2.keep
theorem recPan_D (w : World) (c2 c3 c4 : Nat) (L2 : List Value) (x3 x4 : Value) (e q : Int) (d2 : Blk w c2 32 L2) (hL2 : L2.length = ([.int .i64 0, AK [], AK [], .int .i64 0, .int .i64 0, AK [], .int .i64 0, .int .i64 0, .slice none 0 0] : List Value).length) (d3 : Blk w c3 44 [x3]) (d4 : Blk w c4 3 [x4]) (h23 : c2 ≠ c3) (h24 : c2 ≠ c4) (h34 : c3 ≠ c4) :
  CallsDIn Fence.wide 0 Tryz.prog 107 ([] ++ [pt c2, pt c3, pt c4] : List Value).toArray (.panicking [{ v := .iface 145 (.agg #[.int .i64 e, .int .i64 q]), recovered := false }]) w
   (fun en u' w' => match en with | .returned _ => u' = .panicking [{ v := .iface 145 (.agg #[.int .i64 e, .int .i64 q]), recovered := true }] ∧ (Keep [c2, c3, c4] w w' ∧ Blk w' c2 32 [.int .i64 0, AK [], AK [], .int .i64 0, .int .i64 0, AK [], .int .i64 0, .int .i64 0, .slice none 0 0] ∧ Blk w' c3 44 [.int .i64 e] ∧ Blk w' c4 3 [.int .i64 q]) | _ => False) := by
 have l2 := d2.lt
 have l3 := d3.lt
 have l4 := d4.lt
 refine CY (u1 := .panicking [{ v := .iface 145 (.agg #[.int .i64 e, .int .i64 q]), recovered := true }]) (v0 := .iface 145 (.agg #[.int .i64 e, .int .i64 q]))
  (G := fun _ w' => Keep [c2, c3, c4] w w' ∧ Blk w' c2 32 [.int .i64 0, AK [], AK [], .int .i64 0, .int .i64 0, AK [], .int .i64 0, .int .i64 0, .slice none 0 0] ∧ Blk w' c3 44 [.int .i64 e] ∧ Blk w' c4 3 [.int .i64 q]) (args := [pt c2, pt c3, pt c4]) Tryz.func107 rfl Tryz.ntmps107 (by simp) (by decide) (by kernel_rfl) (by kernel_rfl) (.inr ⟨_, rfl, rfl, rfl⟩) ?_
 refine W_assert_yes rfl ?_
 refine Bf rfl (Ab rfl rfl (Ab rfl rfl ?_))
 refine A7 (cs := [.int .i64 e, .int .i64 q]) rfl rfl (by rfl) (A5 rfl) (fun w2 n2 => ?_)
 have b2 := n2.blk
 have z2 := n2.size
 refine AC (AB rfl ?_)
 repeat refine nx rfl ?_
 refine AA (AB rfl ?_)
 repeat refine nx rfl ?_
 refine AA ?_
 refine Av (fun w3 n3 => ?_)
 have z3 := n3.size
 have b3 : Blk w3 w2.heap.size 32 [.int .i64 0, AK [], AK [], .int .i64 0, .int .i64 0, AK [], .int .i64 0, .int .i64 0, .slice none 0 0] := n3.blk
 replace b2 := b2.keep n3.keep (by simp)
 have k3 : Ext w w3 := n2.keep.trans n3.keep
 replace d2 := d2.keep k3 (by simp)
 replace d3 := d3.keep k3 (by simp)
 replace d4 := d4.keep k3 (by simp)
 repeat refine nx rfl ?_
 refine A3 (.read 0 (.read 1 (.read 2 (.read 3 (.read 4 (.alt 5 (.alt 6 (.alt 7 .done .stop) .stop) .stop)))))) BA (by kernel_rfl) (fun wd kd ed => ⟨fun W => W.cell? ⟨w.heap.size, 0, none⟩ = some (.int .i64 e) ∧ W.cell? ⟨w.heap.size, 1, none⟩ = some (.int .i64 q) ∧ Cells W w2.heap.size 0 [.int .i64 0, AK [], AK [], .int .i64 0, .int .i64 0, AK [], .int .i64 0, .int .i64 0, .slice none 0 0], ?_, ?_⟩)
 ·exact ⟨(b2.keep kd (by simp)).cell rfl, (b2.keep kd (by simp)).cell rfl, (b3.keep kd (by simp)).cells⟩
 have fc0 : ∀ W : World, (W.cell? ⟨w.heap.size, 0, none⟩ = some (.int .i64 e) ∧ W.cell? ⟨w.heap.size, 1, none⟩ = some (.int .i64 q) ∧ Cells W w2.heap.size 0 [.int .i64 0, AK [], AK [], .int .i64 0, .int .i64 0, AK [], .int .i64 0, .int .i64 0, .slice none 0 0]) → W.cell? ⟨w.heap.size, 0, none⟩ = some (.int .i64 e) := fun W h => h.1
 have fc1 : ∀ W : World, (W.cell? ⟨w.heap.size, 0, none⟩ = some (.int .i64 e) ∧ W.cell? ⟨w.heap.size, 1, none⟩ = some (.int .i64 q) ∧ Cells W w2.heap.size 0 [.int .i64 0, AK [], AK [], .int .i64 0, .int .i64 0, AK [], .int .i64 0, .int .i64 0, .slice none 0 0]) → W.cell? ⟨w.heap.size, 1, none⟩ = some (.int .i64 q) := fun W h => h.2.1
 have fc2 : ∀ W : World, (W.cell? ⟨w.heap.size, 0, none⟩ = some (.int .i64 e) ∧ W.cell? ⟨w.heap.size, 1, none⟩ = some (.int .i64 q) ∧ Cells W w2.heap.size 0 [.int .i64 0, AK [], AK [], .int .i64 0, .int .i64 0, AK [], .int .i64 0, .int .i64 0, .slice none 0 0]) → Cells W w2.heap.size 0 [.int .i64 0, AK [], AK [], .int .i64 0, .int .i64 0, AK [], .int .i64 0, .int .i64 0, .slice none 0 0] := fun W h => h.2.2
 replace b2 := b2.keep kd (by simp)
 replace b3 := b3.keep kd (by simp)
 replace d2 := d2.keep kd (by simp)
 replace d3 := d3.keep kd (by simp)
 replace d4 := d4.keep kd (by simp)
 have k : Keep [c2, c3, c4] w wd := (k3.trans kd).any
 ((apply D_R rfl rfl; (intro W hW; refine Ad rfl (by rfl) (fc2 W hW) ?_; exact Z3)) <;> refine D_R rfl rfl (fun W hW => AD rfl Z3) (D_R rfl rfl (fun W hW => AF rfl (fc0 W hW) Z3) (D_R rfl rfl (fun W hW => AD rfl Z3) (D_R rfl rfl (fun W hW => AF rfl (fc1 W hW) Z3) ?_))))
 refine D_E rfl ?_
 refine AZ (cs := [.int .i64 0, AK [], AK [], .int .i64 0, .int .i64 0, AK [], .int .i64 0, .int .i64 0, .slice none 0 0]) rfl rfl rfl (A5 rfl) d2 (by rw [hL2]; simp) (fun W p => ?_)
 have bb := p.blk
 rw [Bc L2 [.int .i64 0, AK [], AK [], .int .i64 0, .int .i64 0, AK [], .int .i64 0, .int .i64 0, .slice none 0 0] (by rw [hL2])] at bb
 replace d3 := d3.keep p.keep (by simp; omega)
 replace d4 := d4.keep p.keep (by simp; omega)
 replace b2 := b2.keep p.keep (by simp; omega)
 replace b3 := b3.keep p.keep (by simp; omega)
 replace k := k.trans p.keep (by simp)
 clear d2 p
 have d2 := bb
 refine AJ ⟨_, fun _ h => h, ⟨b2.cell rfl, b2.cell rfl, b3.cells⟩, ?_⟩
 refine D_E rfl ?_
 refine Ah rfl rfl rfl d3 (by simp) (fun W2 p => ?_)
 have bb3 := p.blk
 replace d2 := d2.keep p.keep (by simp; omega)
 replace d4 := d4.keep p.keep (by simp; omega)
 replace b2 := b2.keep p.keep (by simp; omega)
 replace b3 := b3.keep p.keep (by simp; omega)
 replace k := k.trans p.keep (by simp)
 clear d3 p
 refine AJ ⟨_, fun _ h => h, ⟨b2.cell rfl, b2.cell rfl, b3.cells⟩, ?_⟩
 refine D_E rfl ?_
 refine Ah rfl rfl rfl d4 (by simp) (fun W3 p => ?_)
 have bb4 := p.blk
 replace d2 := d2.keep p.keep (by simp; omega)
 replace bb3 := bb3.keep p.keep (by simp; omega)
 replace b2 := b2.keep p.keep (by simp; omega)
 replace b3 := b3.keep p.keep (by simp; omega)
 replace k := k.trans p.keep (by simp)
 refine AJ ⟨_, fun _ h => h, ⟨b2.cell rfl, b2.cell rfl, b3.cells⟩, ?_⟩
 refine Ay ?_
 repeat refine nx rfl ?_
 exact Az rfl ⟨k, d2, bb3, bb4⟩
end Go.Proofs.YtfcgdbmoncnibaaGreatDoor
