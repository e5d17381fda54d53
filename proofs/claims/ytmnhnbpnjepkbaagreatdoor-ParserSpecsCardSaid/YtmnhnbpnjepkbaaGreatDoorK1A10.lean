/- The parser: specifications, edits. The reference: formulas compared. The reference: formulas built, requirements compared. Conditions: none. -/
import Derived.Test.YtmnhnbpnjepkbaaGreatDoorK1A9

namespace Go.Proofs.YtmnhnbpnjepkbaaGreatDoor
open Go.RowKit
set_option linter.unusedVariables false

theorem oneC_all {l : List Value} (h : l.all (fun v => v.oneCell') = true) : oneC l := fun u hu => List.all_eq_true.1 h u hu
def spcR : Rp Spc where
  fits ok w c x := ∃ sv rv, c = [sv, rv] ∧ SlAt sgnR ok w sv x.sigs ∧ SlAt reqR ok w rv x.reqs
  size := 2
  len h := by obtain ⟨_, _, rfl, _⟩ := h; rfl
  one h := by
    obtain ⟨_, _, rfl, ⟨_, _, _, rfl, _⟩, ⟨_, _, _, rfl, _⟩⟩ := h
    intro u hu; simp at hu; rcases hu with rfl | rfl <;> rfl
  keep h k hX := by
    obtain ⟨sv, rv, e, ⟨a, c, L, e1, h1, h2⟩, ⟨b, d, M, e2, h3, h4⟩⟩ := h
    exact ⟨sv, rv, e, ⟨a, c, L, e1, h1.keep k hX, h2.keep k hX⟩, ⟨b, d, M, e2, h3.keep k hX, h4.keep k hX⟩⟩
  lt h := by
    obtain ⟨sv, rv, e, ⟨a, c, L, e1, h1, h2⟩, ⟨b, d, M, e2, h3, h4⟩⟩ := h
    exact ⟨sv, rv, e, ⟨a, c, L, e1, Sl_ltR (by decide) h1 h2, h2.lt⟩, ⟨b, d, M, e2, Sl_ltR (by decide) h3 h4, h4.lt⟩⟩
  mono h hk := by
    obtain ⟨sv, rv, e, ⟨a, c, L, e1, h1, h2⟩, ⟨b, d, M, e2, h3, h4⟩⟩ := h
    exact ⟨sv, rv, e, ⟨a, c, L, e1, h1.mono hk, h2.mono hk⟩, ⟨b, d, M, e2, h3.mono hk, h4.mono hk⟩⟩
def edtR : Rp Edt where
  fits ok w c x := ∃ d, c = .int .i64 x.kind :: d ∧ reqR.fits ok w d x.req
  size := 9
  len h := by obtain ⟨d, rfl, h⟩ := h; have := reqR.len h; simp [this]; rfl
  one h := by
    obtain ⟨d, rfl, h⟩ := h
    have := reqR.one h
    intro u hu
    rcases List.mem_cons.1 hu with rfl | hu
    · rfl
    · exact this u hu
  keep h k hX := by obtain ⟨d, e, h⟩ := h; exact ⟨d, e, reqR.keep h k hX⟩
  lt h := by obtain ⟨d, e, h⟩ := h; exact ⟨d, e, reqR.lt h⟩
  mono h hk := by obtain ⟨d, e, h⟩ := h; exact ⟨d, e, reqR.mono h hk⟩
def fmlR : Rp Fml where
  fits ok w c x := c.length = 5 ∧ FAt ok w (.agg c.toArray) x
  size := 5
  len h := h.1
  one h := by
    obtain ⟨c', e, _, h1⟩ := h.2.cells
    simp only [Value.agg.injEq] at e
    have e2 := congrArg Array.toList e
    simp only [List.toList_toArray] at e2
    exact e2 ▸ h1
  keep h k hX := ⟨h.1, h.2.keep k hX⟩
  lt h := ⟨h.1, h.2.lt⟩
  mono h hk := ⟨h.1, h.2.mono hk⟩

/-! ### How many are read -/
theorem sees2_inv {s t : List UInt8} {ts ts' : List Tok} {b : Bool} (h : Run (sees2 s t) ts (.ok (b, ts'))) : ts' = ts := by
  cases h.det (run_sees2 s t ts); rfl
theorem lines_cnt : ∀ (n : Nat) (t t' : List Tok) (l : List Rqm), t.length ≤ n → Run (body .lines) t (.ok (l, t')) → l.length + t'.length ≤ t.length := by
  intro n
  induction n with
  | zero =>
    intro t t' l hn h
    obtain ⟨b, t1, r1, h⟩ := bind_ok h
    have e := sees2_inv r1
    subst e
    cases b with
    | true =>
      obtain ⟨r, t2, r2, h⟩ := call_ok h
      have := line_less r2; omega
    | false => cases h.det (Run.ret _ _); simp
  | succ n ih =>
    intro t t' l hn h
    obtain ⟨b, t1, r1, h⟩ := bind_ok h
    have e := sees2_inv r1
    subst e
    cases b with
    | true =>
      obtain ⟨r, t2, r2, h⟩ := call_ok h
      obtain ⟨m, t3, r3, h⟩ := call_ok h
      have h2 := line_less r2
      have h3 := ih t2 t3 m (by omega) r3
      cases h.det (Run.ret _ _)
      simp; omega
    | false => cases h.det (Run.ret _ _); simp
theorem part_cnt {t t' : List Tok} {l : List Rqm} (h : Run (body .part) t (.ok (l, t'))) : l.length + t'.length < t.length := by
  obtain ⟨_, t1, r1, h⟩ := bind_ok h
  obtain ⟨_, t2, r2, h⟩ := bind_ok h
  obtain ⟨_, t3, r3, h⟩ := bind_ok h
  obtain ⟨m, t4, r4, h⟩ := call_ok h
  obtain ⟨_, t5, r5, h⟩ := bind_ok h
  cases h.det (Run.ret _ _)
  have := expect_inv r1; have := r2.le; have := r3.le; have := lines_cnt _ _ _ _ (Nat.le_refl _) r4; have := r5.le
  simp; omega
theorem parts_cnt : ∀ (n : Nat) (t t' : List Tok) (l : List (List Rqm)), t.length ≤ n → Run (body .parts) t (.ok (l, t')) → l.flatten.length + t'.length ≤ t.length := by
  intro n
  induction n with
  | zero =>
    intro t t' l hn h
    obtain ⟨b, t1, r1, h⟩ := bind_ok h
    have e := sees2_inv r1
    subst e
    cases b with
    | true =>
      obtain ⟨r, t2, r2, h⟩ := call_ok h
      have := part_less r2; omega
    | false => cases h.det (Run.ret _ _); simp
  | succ n ih =>
    intro t t' l hn h
    obtain ⟨b, t1, r1, h⟩ := bind_ok h
    have e := sees2_inv r1
    subst e
    cases b with
    | true =>
      obtain ⟨r, t2, r2, h⟩ := call_ok h
      obtain ⟨m, t3, r3, h⟩ := call_ok h
      have h2 := part_cnt r2
      have h3 := ih t2 t3 m (by omega) r3
      cases h.det (Run.ret _ _)
      simp only [List.flatten_cons, List.length_append]; omega
    | false => cases h.det (Run.ret _ _); simp
theorem flatten_atN (n : Nat) : ∀ (L : List (List Value)) (k j : Nat) (c : List Value) (v : Value), (∀ c ∈ L, c.length = n) → L[k]? = some c → c[j]? = some v → L.flatten[k * n + j]? = some v
  | [], k, j, c, v, _, h, _ => by simp at h
  | d :: L, 0, j, c, v, h5, h, hv => by
    simp at h; subst h
    rw [List.flatten_cons, Nat.zero_mul, Nat.zero_add, List.getElem?_append_left (List.getElem?_eq_some_iff.1 hv).1]; exact hv
  | d :: L, k + 1, j, c, v, h5, h, hv => by
    have hd := h5 d (by simp)
    rw [List.flatten_cons, List.getElem?_append_right (by rw [hd, Nat.succ_mul]; omega), hd, show (k + 1) * n + j - n = k * n + j by rw [Nat.succ_mul]; omega]
    exact flatten_atN n L k j c v (fun c hc => h5 c (by simp [hc])) (by simpa using h) hv

theorem spec_ok (E : Env) (N : Nat) : ItemR spcR aggV E N 43 (body .spec) := by
  intro w ts h hN
  have hsl := h.st.slt
  unfold PDo
  refine fnP_of_wc Tryz.func43 rfl Tryz.ntmps43 (Nat.le_of_ble_eq_true rfl) (by kernel_rfl) ?_
  repeat' first | refine nx ?_ | refine C_cond_t rfl ?_ | refine C_cond_f rfl ?_ | refine Q_block_on rfl ?_
  (refine C_region ?_; refine W_box (L := [pt E.s]) rfl (fun w1 n1 => ?_))
  refine W_alloc (fun w2 n2 => ?_)
  have z1 := n1.size
  have z2 := n2.size
  have x2 : Blk w2 w.heap.size 88 [pt E.s] := n1.blk.keep n2.keep (by simp)
  have b2 : Blk w2 w1.heap.size 36 [.slice none 0 0, .slice none 0 0] := n2.blk
  have h2 := (h.ext n1.keep).ext n2.keep
  have k2 : Keep [E.s] w w2 := (n1.keep.trans n2.keep).any
  refine W_nil ?_
  repeat' first | refine nx ?_ | refine C_cond_t rfl ?_ | refine C_cond_f rfl ?_ | refine Q_block_on rfl ?_
  (refine C_region ?_
   <;> refine W_makeFunc rfl rfl ?_
   <;> (refine M_assign ?_; (first | refine M_func rfl ?_ | refine W_move ?_))
   <;> refine W_nil ?_)
  repeat' first | refine nx ?_ | refine C_cond_t rfl ?_ | refine C_cond_f rfl ?_ | refine Q_block_on rfl ?_
  (refine C_region ?_
   <;> (first | refine M_func rfl ?_ | refine W_move ?_)
   <;> (first | refine W_load rfl (Blk.cell (by assumption) (by rfl)) ?_ | refine W_load rfl (by assumption) ?_)
   <;> refine W_makeFunc rfl rfl ?_)
  -- at operation 3: <dst=(some 11) op=(call <callee=(value (func 68)) args=[(tmp 8), (tmp 10)] argTypes=[23, 114]>) type=33 guard=none>
  refine W_callP (whileSgn_ok E ts.length _ _ [] [pt w.heap.size] _ _ _ whileP_sig w2 ts (declared_ok E w2 _ x2 (by omega)) (signal_ok E _) h2 (Nat.le_refl _)) rfl ?_ ?_
  rotate_left
  · rintro ch wq ⟨kq, lq, rq, rfl⟩
    repeat' first | refine nx ?_ | refine C_cond_t rfl ?_ | refine C_cond_f rfl ?_ | refine Q_block_on rfl ?_ | refine Q_join_pan ?_ | refine Q_join_ret ?_ | refine Q_join_exit ?_
    exact fin_pan ⟨k2.trans kq (by simp), lq, Run.callE rq, rfl⟩
  rintro sv w3 ⟨k3, l, t3, r3, q3, L, o3, F3⟩
  have h3 := h2.next k3 q3
  have k13 := k2.trans k3 (by simp)
  have z3 := k3.size
  have x3 := x2.keep k3 (by simp <;> omega)
  have b3 := b2.keep k3 (by simp <;> omega)
  have S3 := Sl_of_own (ok := fun b => w2.heap.size ≤ b ∧ b < w3.heap.size) o3 (fun g hg => by have := own_in o3 hg; omega)
  obtain ⟨sa, sc, rfl, _⟩ := id S3
  (refine W_build (by rfl) (by rfl) ?_)
  -- at operation 5: <dst=(some 4) op=(alloc 36) type=0 guard=none>
  refine W_newAgg (cs := [.slice sa l.length sc, .slice none 0 0]) rfl rfl (by rfl) (by intro u hu; simp at hu; rcases hu with rfl | rfl <;> rfl) (fun w4 n4 => ?_)
  have h4 := h3.ext n4.keep
  have k14 := k13.ext n4.keep
  have z4 := n4.size
  have x4 := x3.keep n4.keep (by simp)
  have b4 := b3.keep n4.keep (by simp)
  have e4 := n4.blk
  have S4 := S3.ext n4.keep
  have F4 := F3.ext n4.keep
  refine W_nil ?_
  repeat' first | refine nx ?_ | refine C_cond_t rfl ?_ | refine C_cond_f rfl ?_ | refine Q_block_on rfl ?_
  (refine C_region ?_
   <;> (first | refine W_load rfl (Blk.cell (by assumption) (by rfl)) ?_ | refine W_load rfl (by assumption) ?_)
   <;> refine W_makeFunc rfl rfl ?_
   <;> (first | refine W_load rfl (Blk.cell (by assumption) (by rfl)) ?_ | refine W_load rfl (by assumption) ?_)
   <;> refine W_makeFunc rfl rfl ?_)
  -- at operation 4: <dst=(some 17) op=(call <callee=(value (func 70)) args=[(tmp 14), (tmp 16)] argTypes=[23, 117]>) type=115 guard=none>
  refine W_callP (whileReqs_ok E t3.length _ _ [pt E.s] [] _ _ _ whileP_parts w4 t3 (opened_ok E w4) (part_ok E _) h4 (Nat.le_refl _)) rfl ?_ ?_
  rotate_left
  · rintro ch wq ⟨kq, lq, rq, rfl⟩
    repeat' first | refine nx ?_ | refine C_cond_t rfl ?_ | refine C_cond_f rfl ?_ | refine Q_block_on rfl ?_ | refine Q_join_pan ?_ | refine Q_join_ret ?_ | refine Q_join_exit ?_
    exact fin_pan ⟨k14.trans kq (by simp), lq, Run.call r3 (Run.callE rq), rfl⟩
  rintro pv w5 ⟨k5, m, t5, r5, q5, M, o5, F5⟩
  have h5 := h4.next k5 q5
  have k15 := k14.trans k5 (by simp)
  have z5 := k5.size
  have b5 := b4.keep k5 (by simp <;> omega)
  have e5 := e4.keep k5 (by simp <;> omega)
  have S5 := S4.keep k5 (fun b hb => by simp; omega)
  have P5 := Sl_of_own (ok := fun b => w4.heap.size ≤ b ∧ b < w5.heap.size) o5 (fun g hg => own_in o5 hg)
  have F5' : RsAt reqsR (fun b => w4.heap.size ≤ b ∧ b < w5.heap.size) w5 M m := F5.lt.mono fun b hb => ⟨hb.1.1, hb.2⟩
  obtain ⟨pa, pc, rfl, _⟩ := id P5
  have hts := h.st.cnt
  have hc3 := (show t3 <:+ ts from Run.suffix r3).length_le
  have hcnt := parts_cnt _ _ _ _ (Nat.le_refl _) r5
  have hmm : m.length ≤ 9223372036854775807 := by
    obtain ⟨_, _, hv, g1, g2, _⟩ := id P5
    cases hv; omega
  (refine W_len rfl ?_
   <;> (first | refine M_int rfl ?_ | refine W_move ?_)
   <;> refine W_nil ?_)
  repeat' first | refine nx ?_ | refine C_cond_t rfl ?_ | refine C_cond_f rfl ?_ | refine Q_block_on rfl ?_
  refine C_loop (α := Nat × Value × List (List Value)) (fun x => [(2, pt w1.heap.size), (4, pt w3.heap.size), (17, .slice pa m.length pc), (18, .int .i64 (m.length : Int)), (19, .int .i64 (x.1 : Int))])
    (fun x W => x.1 ≤ m.length ∧ Keep [E.s] w W ∧ PSt W E t5 ∧ w5.heap.size ≤ W.heap.size ∧ Blk W w1.heap.size 36 [.slice none 0 0, .slice none 0 0] ∧ Blk W w3.heap.size 36 [.slice sa l.length sc, x.2.1] ∧
      Sl (fun b => w2.heap.size ≤ b ∧ b < w3.heap.size) W (.slice sa l.length sc) l.length L.flatten ∧ Sl (fun b => w4.heap.size ≤ b ∧ b < w5.heap.size) W (.slice pa m.length pc) m.length M.flatten ∧ RsAt reqsR (fun b => w4.heap.size ≤ b ∧ b < w5.heap.size) W M m ∧
      W.ownsRow w5.heap.size 41 8 x.2.1 (m.take x.1).flatten.length x.2.2.flatten ∧ RsAt reqR (fun b => w4.heap.size ≤ b ∧ b < w5.heap.size) W x.2.2 (m.take x.1).flatten) (fun x => m.length - x.1) (0, .slice none 0 0, []) ⟨rfl, rfl, rfl, rfl, rfl, trivial⟩
    ⟨by simp, k15, q5, Nat.le_refl _, b5, e5, S5, P5, F5', ⟨by simp, .inl ⟨rfl, rfl⟩⟩, RsAt.nil⟩ ?_
  rintro ⟨k, rv, Q⟩ w6 f6 ⟨hk, k6, q6, z6, b6, e6, S6, P6, F6, o6, G6⟩
  simp only at hk o6 G6 e6 ⊢
  repeat' first | refine nx ?_ | refine C_cond_t rfl ?_ | refine C_cond_f rfl ?_ | refine Q_block_on rfl ?_
  have hb1 : w1.heap.size < w3.heap.size := by omega
  by_cases hlt : k < m.length
  · obtain ⟨c, hc⟩ : ∃ c, M[k]? = some c := ⟨_, List.getElem?_eq_getElem (by rw [F6.1]; exact hlt)⟩
    obtain ⟨rs, hrs⟩ : ∃ rs, m[k]? = some rs := ⟨_, List.getElem?_eq_getElem hlt⟩
    obtain ⟨pv, rfl, va, vc, V, rfl, SV, FV⟩ := F6.2 k c rs hc hrs
    obtain ⟨b, o, rfl, hb, hcell⟩ : ∃ b o, pa = some ⟨b, o, none⟩ ∧ (w4.heap.size ≤ b ∧ b < w5.heap.size) ∧ w6.cell? ⟨b, o + k, none⟩ = some (.slice va rs.length vc) := by
      obtain ⟨a', cap, hv, g1, g2, g3, g4⟩ := id P6
      cases hv
      obtain ⟨b, o, rfl, hb, hcc⟩ := g4.resolve_left (by omega)
      refine ⟨b, o, rfl, hb, hcc k _ ?_⟩
      have := flatten_atN 1 M k 0 _ _ F6.len hc rfl
      simpa using this
    have etk : m.take (k + 1) = m.take k ++ [rs] := by rw [List.take_add_one, hrs]; rfl
    have hcr : (m.take (k + 1)).flatten.length ≤ m.flatten.length := by
      have e1 := congrArg (fun x => x.flatten.length) (List.take_append_drop (k + 1) m)
      simp only [List.flatten_append, List.length_append] at e1; omega
    have etl : (m.take (k + 1)).flatten.length = (m.take k).flatten.length + rs.length := by rw [etk]; simp
    obtain ⟨ra, rc, rfl⟩ : ∃ ra rc, rv = .slice ra (m.take k).flatten.length rc := by
      rcases o6.2 with ⟨rfl, h0⟩ | ⟨g, cap, cur, rfl, _⟩
      · exact ⟨none, 0, by rw [h0]⟩
      · exact ⟨_, _, rfl⟩
    have hown : ∀ x ∈ (Value.slice ra (m.take k).flatten.length rc).ownBlock.toList, w5.heap.size ≤ x := fun x hx => (own_in o6 (Option.mem_toList.1 hx)).1
    (refine C_region ?_
     <;> (refine W_lss rfl rfl (fun hc => ?_) (fun hc => ?_) <;> try (exfalso; omega))
     <;> refine W_nil ?_)
    repeat' first | refine nx ?_ | refine C_cond_t rfl ?_ | refine C_cond_f rfl ?_ | refine Q_block_on rfl ?_
    (refine C_region ?_
     <;> (first | refine W_idx1 rfl rfl rfl (by omega) ?_ | refine W_idx rfl rfl rfl (by omega) ?_ | refine W_indexAddr rfl rfl (by omega) (by omega) ?_)
     <;> (first | refine W_load rfl (Blk.cell (by assumption) (by rfl)) ?_ | refine W_load rfl (by assumption) ?_)
     <;> (refine M_assign ?_; (first | refine M_slice rfl ?_ | refine W_move ?_))
     <;> refine W_nil ?_)
    repeat' first | refine nx ?_ | refine C_cond_t rfl ?_ | refine C_cond_f rfl ?_ | refine Q_block_on rfl ?_
    (refine C_region ?_
     <;> refine W_fieldAddr rfl ?_
     <;> (first | refine W_load rfl (Blk.cell (by assumption) (by rfl)) ?_ | refine W_load rfl (by assumption) ?_)
     <;> (first | refine M_slice rfl ?_ | refine W_move ?_))
    -- at operation 3: <dst=(some 26) op=(call <callee=(builtin append) args=[(tmp 24), (tmp 25)] argTypes=[34, 34]>) type=34 guard=none>
    refine W_append (v := .slice ra (m.take k).flatten.length rc) (sv := .slice va rs.length vc) rfl rfl o6 SV (by omega) rfl FV.flat FV.oneC (by omega) (by omega) (by omega) (fun v7 w7 a7 => ?_)
    have o7 := a7.own
    have z7 := a7.keep.size
    have hkp : ∀ b, b < w5.heap.size → b ∉ (Value.slice ra (m.take k).flatten.length rc).ownBlock.toList := fun b hb hx => by have := hown b hx; omega
    have e7 := e6.keep a7.keep (hkp _ (by omega))
    have b7 := b6.keep a7.keep (hkp _ (by omega))
    have S7 := S6.keep a7.keep (fun b hb => hkp b (by omega))
    have P7 := P6.keep a7.keep (fun b hb => hkp b hb.2)
    have F7 := F6.keep a7.keep (fun b hb => hkp b hb.2)
    have G7 := (G6.app FV).keep a7.keep (fun b hb => hkp b hb.2)
    have k7 := k6.trans a7.keep (fun x hx hlt => by have := hown x hx; omega)
    have q7 := q6.keep a7.keep (fun x hx => by have := hown x hx; omega)
    obtain ⟨va7, vc7, rfl⟩ : ∃ va7 vc7, v7 = .slice va7 ((m.take k).flatten.length + rs.length) vc7 := by
      rcases o7.2 with ⟨rfl, h0⟩ | ⟨g, cap, cur, rfl, _⟩
      · exact ⟨none, 0, by rw [h0]⟩
      · exact ⟨_, _, rfl⟩
    (refine W_fieldAddr rfl ?_)
    -- at operation 5: <dst=none op=(store 34 (tmp 27) (tmp 26)) type=0 guard=none>
    refine W_store rfl rfl rfl e7 (by simp) (fun w8 p8 => ?_)
    have z8 := p8.size
    have hk8 : ∀ b, b ≠ w3.heap.size → b ∉ [w3.heap.size] := fun b hb hx => hb (by simpa using hx)
    refine W_nil ?_
    repeat' first | refine nx ?_ | refine C_cond_t rfl ?_ | refine C_cond_f rfl ?_ | refine Q_block_on rfl ?_
    (refine C_region ?_
     <;> refine W_add rfl rfl (by first | exact inR_i64 (by omega) (by omega) | exact inR_u8 (by omega) (by omega) | exact inR_u16 (by omega) (by omega)) ?_
     <;> (first | refine M_int rfl ?_ | refine W_move ?_)
     <;> refine W_nil ?_)
    repeat' first | refine nx ?_ | refine C_cond_t rfl ?_ | refine C_cond_f rfl ?_ | refine Q_block_on rfl ?_
    refine ⟨(k + 1, .slice va7 ((m.take k).flatten.length + rs.length) vc7, Q ++ V), ⟨rfl, ⟨rfl, rfl, rfl, rfl, ?_, trivial⟩, ⟨by simp only; omega, k7.trans p8.keep (by simp <;> omega), q7.keep p8.keep (by simp <;> omega), by omega, b7.keep p8.keep (hk8 _ (by omega)), p8.blk, S7.keep p8.keep (fun b hb => hk8 _ (by omega)), P7.keep p8.keep (fun b hb => hk8 _ (by omega)), F7.keep p8.keep (fun b hb => hk8 _ (by omega)), ?_, ?_⟩⟩, by simp only; omega⟩
    · show Value.int .i64 ((k : Int) + 1) = _
      rw [Int.natCast_add]; rfl
    · have := ownsRow_keep o7 p8.keep (fun g hg => hk8 g (by have := own_in o7 hg; omega))
      simp only [etl, List.flatten_append]
      exact this
    · simp only [etk, List.flatten_append]
      have := G7.keep p8.keep (fun b hb => hk8 _ (by omega))
      simpa using this
  · obtain rfl : k = m.length := by omega
    rw [List.take_length] at o6 G6
    (refine C_region ?_
     <;> (refine W_lss rfl rfl (fun hc => ?_) (fun hc => ?_) <;> try (exfalso; omega))
     <;> refine W_nil ?_)
    repeat' first | refine nx ?_ | refine C_cond_t rfl ?_ | refine C_cond_f rfl ?_ | refine Q_block_on rfl ?_
    have hr6 := Sl_of_own (ok := fresh w) o6 (fun g hg => by have := own_in o6 hg; simp only [fresh]; omega)
    obtain ⟨ra, rc, rfl, _⟩ := id hr6
    (refine C_region ?_; refine W_load_aggB rfl e6 rfl ?_)
    refine W_store_agg (cs := [.slice sa l.length sc, .slice ra m.flatten.length rc]) rfl rfl rfl (by intro u hu; simp at hu; rcases hu with rfl | rfl <;> rfl) b6 (by simp) (fun w7 p7 => ?_)
    refine W_nil ?_
    repeat' first | refine nx ?_ | refine C_cond_t rfl ?_ | refine C_cond_f rfl ?_ | refine Q_block_on rfl ?_
    have b7 : Blk w7 w1.heap.size 36 [.slice sa l.length sc, .slice ra m.flatten.length rc] := p7.blk
    have hk7 : ∀ b, b ≠ w1.heap.size → b ∉ [w1.heap.size] := fun b hb hx => hb (by simpa using hx)
    have F6s : RsAt sgnR (fun b => b ≠ w1.heap.size ∧ fresh w b) w6 L l := ⟨F4.1, fun i c a hc ha => F4.2 i c a hc ha⟩
    have R7 := Sl_of_own (ok := fun b => b ≠ w1.heap.size ∧ fresh w b) o6 (fun g hg => by have := own_in o6 hg; simp only [fresh]; omega)
    refine fin_retA rfl rfl rfl b7.cells ⟨k6.trans p7.keep (by simp <;> omega), ⟨l, m.flatten⟩, t5, Run.call r3 (Run.call r5 (Run.ret _ _)), q6.keep p7.keep (by simp <;> omega), _, rfl, _, _, rfl, ⟨_, _, L, rfl, ?_, ?_⟩, ⟨_, _, Q, rfl, ?_, ?_⟩⟩
    · exact (S6.mono (ok' := fun b => b ≠ w1.heap.size ∧ fresh w b) (fun b hb => by simp only [fresh]; omega)).keep p7.keep (fun b hb => hk7 b hb.1) |>.mono fun b hb => hb.2
    · exact (F6s.keep p7.keep (fun b hb => hk7 b hb.1)).mono fun b hb => hb.2
    · exact (R7.keep p7.keep (fun b hb => hk7 b hb.1)).mono fun b hb => hb.2
    · exact ((G6.mono (ok' := fun b => b ≠ w1.heap.size ∧ fresh w b) (fun b hb => by simp only [fresh]; omega)).keep p7.keep (fun b hb => hk7 b hb.1)).mono fun b hb => hb.2

theorem edit_ok (E : Env) (N : Nat) : ItemR edtR aggV E N 47 (body .edit) := by
  intro w ts h hN
  have hsl := h.st.slt
  unfold PDo
  refine fnP_of_wc Tryz.func47 rfl Tryz.ntmps47 (Nat.le_of_ble_eq_true rfl) (by kernel_rfl) ?_
  repeat' first | refine nx ?_ | refine C_cond_t rfl ?_ | refine C_cond_f rfl ?_ | refine Q_block_on rfl ?_
  (refine C_region ?_)
  -- at operation 0: <dst=(some 2) op=(alloc 43) type=0 guard=none>
  refine W_alloc (fun w1 n1 => ?_)
  have b1 : Blk w1 w.heap.size 43 (.int .i64 0 :: zero8) := n1.blk
  have z1 := n1.size
  have h1 := h.ext n1.keep
  have k1 : Keep [E.s] w w1 := n1.keep.any
  refine W_nil ?_
  repeat' first | refine nx ?_ | refine C_cond_t rfl ?_ | refine C_cond_f rfl ?_ | refine Q_block_on rfl ?_
  (refine C_region ?_
   <;> (first | refine M_ptr rfl ?_ | refine W_move ?_))
  -- at operation 1: <dst=(some 6) op=(call <callee=(value (func 64)) args=[(tmp 5), (const (string <data=[100, 114, 111, 112]>))] argTypes=[88, 9]>) type=4 guard=none>
  refine W_call (accepts_ok E w1 ts [100, 114, 111, 112] h1.st) rfl ?_
  rintro _ w2 ⟨k2, i, t2, rfl, r2, q2⟩
  have h2 := h1.next k2 q2
  have b2 := b1.keep k2 (by simp <;> omega)
  have k12 := k1.trans k2 (by simp)
  have z2 := k2.size
  refine W_nil ?_
  cases i with
  | true =>
    repeat' first | refine nx ?_ | refine C_cond_t rfl ?_ | refine C_cond_f rfl ?_ | refine Q_block_on rfl ?_
    (refine C_region ?_
     <;> (first | refine M_ptr rfl ?_ | refine W_move ?_))
    -- at operation 1: <dst=(some 8) op=(call <callee=(value (func 74)) args=[(tmp 7)] argTypes=[88]>) type=9 guard=none>
    refine W_callP (pname_ok E w2 t2 h2.st h2.gk) rfl ?_ ?_
    rotate_left
    · rintro ch wq ⟨kq, lq, rq, rfl⟩
      repeat' first | refine nx ?_ | refine C_cond_t rfl ?_ | refine C_cond_f rfl ?_ | refine Q_block_on rfl ?_ | refine Q_join_pan ?_ | refine Q_join_ret ?_ | refine Q_join_exit ?_
      exact fin_pan ⟨k12.trans kq (by simp), lq, r2.bind (Run.bindE rq), rfl⟩
    rintro v w3 ⟨k3, s, t3, r3, q3, rfl, hs⟩
    have b3 := b2.keep k3 (by simp <;> omega)
    (refine W_build (by rfl) (by rfl) ?_
     <;> refine W_build (by rfl) (by rfl) ?_)
    -- at operation 4: <dst=none op=(store 43 (tmp 2) (tmp 10)) type=0 guard=none>
    refine W_store_agg (cs := [.int .i64 2, strV [], strV s, .int .i64 0, .int .i64 0, strV [], .int .i64 0, .int .i64 0, .slice none 0 0]) rfl rfl rfl (oneC_all rfl) b3 (by simp [zero8]) (fun w4 p4 => ?_)
    refine W_nil ?_
    repeat' first | refine nx ?_ | refine C_cond_t rfl ?_ | refine C_cond_f rfl ?_ | refine Q_block_on rfl ?_
    have b4 : Blk w4 w.heap.size 43 [.int .i64 2, strV [], strV s, .int .i64 0, .int .i64 0, strV [], .int .i64 0, .int .i64 0, .slice none 0 0] := p4.blk
    exact fin_retA rfl rfl rfl b4.cells ⟨(k12.trans k3 (by simp)).trans p4.keep (by simp <;> omega), ⟨2, ⟨[], s, 0, zeroF⟩⟩, t3, r2.bind (r3.bind (Run.ret _ _)), q3.keep p4.keep (by simp <;> omega), _, rfl, _, rfl, _, rfl, rfl, FAt.leaf _ _ _ _ _ _⟩
  | false =>
  repeat' first | refine nx ?_ | refine C_cond_t rfl ?_ | refine C_cond_f rfl ?_ | refine Q_block_on rfl ?_
  (refine C_region ?_
   <;> refine W_build (by rfl) (by rfl) ?_)
  -- at operation 1: <dst=(some 3) op=(alloc 43) type=0 guard=none>
  refine W_newAgg (cs := [.int .i64 1, strV [], strV [], .int .i64 0, .int .i64 0, strV [], .int .i64 0, .int .i64 0, .slice none 0 0]) rfl rfl (by rfl) (oneC_all rfl) (fun w3 n3 => ?_)
  have h3 := h2.ext n3.keep
  have b3 := b2.keep n3.keep (by simp)
  have z3 := n3.size
  have e3 := n3.blk
  have k13 := k12.ext n3.keep
  refine W_nil ?_
  repeat' first | refine nx ?_ | refine C_cond_t rfl ?_ | refine C_cond_f rfl ?_ | refine Q_block_on rfl ?_
  (refine C_region ?_
   <;> (first | refine M_ptr rfl ?_ | refine W_move ?_))
  -- at operation 1: <dst=(some 13) op=(call <callee=(value (func 64)) args=[(tmp 12), (const (string <data=[97, 100, 100]>))] argTypes=[88, 9]>) type=4 guard=none>
  refine W_call (accepts_ok E w3 t2 [97, 100, 100] h3.st) rfl ?_
  rintro _ w4 ⟨k4, j, t4, rfl, r4, q4⟩
  have h4 := h3.next k4 q4
  have b4 := b3.keep k4 (by simp <;> omega)
  have e4 := e3.keep k4 (by simp <;> omega)
  have k14 := k13.trans k4 (by simp)
  have z4 := k4.size
  (refine W_not rfl ?_
   <;> refine W_nil ?_)
  repeat' first | refine nx ?_ | refine C_cond_t rfl ?_ | refine C_cond_f rfl ?_ | refine Q_block_on rfl ?_
  refine C_mid (α := List Tok × Int) (fun _ => [(0, pt E.s), (2, pt w.heap.size), (3, pt w2.heap.size)])
    (fun x W => Run (if j then .ret 1 else (expect [114, 101, 112, 108, 97, 99, 101]).bind fun _ => .ret 3 : G Int) t4 (.ok (x.2, x.1)) ∧ PW W E x.1 ∧ Keep [E.s] w W ∧ w3.heap.size ≤ W.heap.size ∧ Blk W w.heap.size 43 (.int .i64 0 :: zero8) ∧ Blk W w2.heap.size 43 (.int .i64 x.2 :: zero8)) ?_ ?_
  · cases j with
    | true =>
      repeat' first | refine nx ?_ | refine C_cond_t rfl ?_ | refine C_cond_f rfl ?_ | refine Q_block_on rfl ?_ | refine Q_join_pan ?_ | refine Q_join_ret ?_ | refine Q_join_exit ?_
      exact Q_join (t4, 1) ⟨rfl, rfl, rfl, trivial⟩ ⟨Run.ret _ _, h4, k14, by omega, b4, e4⟩
    | false =>
      repeat' first | refine nx ?_ | refine C_cond_t rfl ?_ | refine C_cond_f rfl ?_ | refine Q_block_on rfl ?_ | refine Q_join_pan ?_ | refine Q_join_ret ?_ | refine Q_join_exit ?_
      (refine C_region ?_
       <;> (first | refine M_ptr rfl ?_ | refine W_move ?_))
      -- at operation 1: <dst=(some 16) op=(call <callee=(value (func 75)) args=[(tmp 15), (const (string <data=[114, 101, 112, 108, 97, 99, 101]>))] argTypes=[88, 9]>) type=0 guard=none>
      refine W_callP (expect_ok E w4 t4 [114, 101, 112, 108, 97, 99, 101] h4.st) rfl ?_ ?_
      rotate_left
      · rintro ch wq ⟨kq, lq, rq, rfl⟩
        repeat' first | refine nx ?_ | refine C_cond_t rfl ?_ | refine C_cond_f rfl ?_ | refine Q_block_on rfl ?_ | refine Q_join_pan ?_ | refine Q_join_ret ?_ | refine Q_join_exit ?_
        exact fin_pan ⟨k14.trans kq (by simp), lq, r2.bind (r4.bind (Run.bindE (Run.bindE rq))), rfl⟩
      rintro v w5 ⟨k5, _, t5, r5, q5, rfl⟩
      have e5 := e4.keep k5 (by simp <;> omega)
      have z5 := k5.size
      refine W_nil ?_
      repeat' first | refine nx ?_ | refine C_cond_t rfl ?_ | refine C_cond_f rfl ?_ | refine Q_block_on rfl ?_ | refine Q_join_pan ?_ | refine Q_join_ret ?_ | refine Q_join_exit ?_
      (refine C_region ?_
       <;> refine W_fieldAddr rfl ?_)
      -- at operation 1: <dst=none op=(store 3 (tmp 17) (const (int i64 3))) type=0 guard=none>
      refine W_store rfl rfl rfl e5 (by simp) (fun w6 p6 => ?_)
      have z6 := p6.size
      refine W_nil ?_
      repeat' first | refine nx ?_ | refine C_cond_t rfl ?_ | refine C_cond_f rfl ?_ | refine Q_block_on rfl ?_ | refine Q_join_pan ?_ | refine Q_join_ret ?_ | refine Q_join_exit ?_
      exact Q_join (t5, 3) ⟨rfl, rfl, rfl, trivial⟩ ⟨r5.bind (Run.ret _ _), (h4.next k5 q5).keep p6.keep (by simp <;> omega), (k14.trans k5 (by simp)).trans p6.keep (by simp <;> omega), by omega, (b4.keep k5 (by simp <;> omega)).keep p6.keep (by simp <;> omega), p6.blk⟩
  rintro ⟨t5, kd⟩ w5 f5 ⟨r5, h5, k15, z5, b5, e5⟩
  simp only at r5 h5 e5
  repeat' first | refine nx ?_ | refine C_cond_t rfl ?_ | refine C_cond_f rfl ?_ | refine Q_block_on rfl ?_
  (refine C_region ?_
   <;> (first | refine M_ptr rfl ?_ | refine W_move ?_))
  -- at operation 1: <dst=(some 19) op=(call <callee=(value (func 74)) args=[(tmp 18)] argTypes=[88]>) type=9 guard=none>
  refine W_callP (pname_ok E w5 t5 h5.st h5.gk) rfl ?_ ?_
  rotate_left
  · rintro ch wq ⟨kq, lq, rq, rfl⟩
    repeat' first | refine nx ?_ | refine C_cond_t rfl ?_ | refine C_cond_f rfl ?_ | refine Q_block_on rfl ?_ | refine Q_join_pan ?_ | refine Q_join_ret ?_ | refine Q_join_exit ?_
    exact fin_pan ⟨k15.trans kq (by simp), lq, r2.bind (r4.bind (r5.bind (Run.bindE rq))), rfl⟩
  rintro v w6 ⟨k6, p, t6, r6, q6, rfl, hp⟩
  have h6 := h5.next k6 q6
  have b6 := b5.keep k6 (by simp <;> omega)
  have e6 := e5.keep k6 (by simp <;> omega)
  have k16 := k15.trans k6 (by simp)
  have z6 := k6.size
  ((refine M_assign ?_; (first | refine M_str rfl ?_ | refine W_move ?_))
   <;> refine W_nil ?_)
  repeat' first | refine nx ?_ | refine C_cond_t rfl ?_ | refine C_cond_f rfl ?_ | refine Q_block_on rfl ?_
  (refine C_region ?_
   <;> (first | refine M_ptr rfl ?_ | refine W_move ?_))
  -- at operation 1: <dst=(some 21) op=(call <callee=(value (func 76)) args=[(tmp 20)] argTypes=[88]>) type=41 guard=none>
  refine W_callP (requirement_ok E t6.length w6 t6 h6 (Nat.le_refl _)) rfl ?_ ?_
  rotate_left
  · rintro ch wq ⟨kq, lq, rq, rfl⟩
    repeat' first | refine nx ?_ | refine C_cond_t rfl ?_ | refine C_cond_f rfl ?_ | refine Q_block_on rfl ?_ | refine Q_join_pan ?_ | refine Q_join_ret ?_ | refine Q_join_exit ?_
    exact fin_pan ⟨k16.trans kq (by simp), lq, r2.bind (r4.bind (r5.bind (r6.bind (Run.callE rq)))), rfl⟩
  rintro v w7 ⟨k7, r, t7, r7, q7, c, rfl, f7⟩
  have b7 := b6.keep k7 (by simp <;> omega)
  have e7 := e6.keep k7 (by simp <;> omega)
  have k17 := k16.trans k7 (by simp)
  have z7 := k7.size
  have hcl : c.length = 8 := reqR.len f7
  have hco := reqR.one f7
  (refine W_fieldAddr rfl ?_)
  -- at operation 3: <dst=none op=(store 41 (tmp 22) (tmp 21)) type=0 guard=none>
  refine W_store_agg (cs := c) rfl rfl hcl hco e7 (by simp [zero8]) (fun w8 p8 => ?_)
  have b8 := b7.keep p8.keep (by simp <;> omega)
  have e8 : Blk w8 w2.heap.size 43 (.int .i64 kd :: c) := by
    have := p8.blk
    have es : splice (Value.int .i64 kd :: zero8) (0 + 1) c = .int .i64 kd :: c := by
      simp [splice, hcl, zero8]
    rw [es] at this
    exact this
  have f8 := reqR.keep f7 p8.keep (by intro b hb; simp [fresh] at hb ⊢; omega)
  have z8 := p8.size
  refine W_nil ?_
  repeat' first | refine nx ?_ | refine C_cond_t rfl ?_ | refine C_cond_f rfl ?_ | refine Q_block_on rfl ?_
  obtain ⟨d, rfl, hd5, hdf⟩ := f8
  (refine C_region ?_
   <;> (first | refine M_str rfl ?_ | refine W_move ?_)
   <;> refine W_fieldAddr rfl ?_
   <;> refine W_fieldAddr rfl ?_)
  -- at operation 3: <dst=none op=(store 9 (tmp 25) (tmp 23)) type=0 guard=none>
  refine W_store rfl rfl rfl e8 (by simp) (fun w9 p9 => ?_)
  have b9 := b8.keep p9.keep (by simp <;> omega)
  have e9 : Blk w9 w2.heap.size 43 (.int .i64 kd :: ([strV p, strV r.name, .int .i64 r.kind] ++ d)) := p9.blk
  have f9 := hdf.keep p9.keep (by intro b hb; simp [fresh] at hb ⊢; omega)
  have z9 := p9.size
  refine W_nil ?_
  repeat' first | refine nx ?_ | refine C_cond_t rfl ?_ | refine C_cond_f rfl ?_ | refine Q_block_on rfl ?_
  have hlen : (Value.int .i64 kd :: ([strV p, strV r.name, .int .i64 r.kind] ++ d)).length = 9 := by simp [hd5]
  have hr : reqR.fits (fresh w6) w9 ([strV p, strV r.name, .int .i64 r.kind] ++ d) ⟨p, r.name, r.kind, r.formula⟩ := ⟨d, rfl, hd5, f9⟩
  have hone : oneC (Value.int .i64 kd :: ([strV p, strV r.name, .int .i64 r.kind] ++ d)) := by
    intro u hu
    rcases List.mem_cons.1 hu with rfl | hu
    · rfl
    · exact reqR.one hr u hu
  (refine C_region ?_; refine W_load_aggB rfl e9 hlen ?_)
  refine W_store_agg (cs := .int .i64 kd :: ([strV p, strV r.name, .int .i64 r.kind] ++ d)) rfl rfl hlen hone b9 (by simp [zero8]) (fun w10 p10 => ?_)
  refine W_nil ?_
  repeat' first | refine nx ?_ | refine C_cond_t rfl ?_ | refine C_cond_f rfl ?_ | refine Q_block_on rfl ?_
  have b10 : Blk w10 w.heap.size 43 (.int .i64 kd :: ([strV p, strV r.name, .int .i64 r.kind] ++ d)) := by
    have := p10.blk
    rw [splice_full _ _ (by rw [hlen]; rfl)] at this
    exact this
  have f10 := reqR.keep hr p10.keep (by intro b hb; simp [fresh] at hb ⊢; omega)
  exact fin_retA rfl rfl hlen b10.cells ⟨((k17.trans p8.keep (by simp <;> omega)).trans p9.keep (by simp <;> omega)).trans p10.keep (by simp <;> omega), ⟨kd, ⟨p, r.name, r.kind, r.formula⟩⟩, t7, r2.bind (r4.bind (r5.bind (r6.bind (Run.call r7 (Run.ret _ _))))), ((q7.keep p8.keep (by simp <;> omega)).keep p9.keep (by simp <;> omega)).keep p10.keep (by simp <;> omega), _, rfl, _, rfl, reqR.mono f10 fun b hb => by simp only [fresh] at hb ⊢; omega⟩
end Go.Proofs.YtmnhnbpnjepkbaaGreatDoor

namespace Go.Proofs.YtmnhnbpnjepkbaaGreatDoor
open Go.RowKit
set_option linter.unusedVariables false

theorem fml_eq {f g : Fml} : f = g ↔ f.op = g.op ∧ f.name = g.name ∧ f.val = g.val ∧ f.bound = g.bound ∧ f.args = g.args := by
  obtain ⟨a, b, c, d, e⟩ := f
  obtain ⟨a', b', c', d', e'⟩ := g
  simp [Fml.op, Fml.name, Fml.val, Fml.bound, Fml.args]

theorem ints_ok (a b : Int) (w : World) : Fn Tryz.prog 83 [.int .i64 a, .int .i64 b] w fun v w' => ∃ c : Int, v = .int .i64 c ∧ (c = 0 ↔ a = b) ∧ w' = w := by
  refine fn_of_wc Tryz.func83 rfl Tryz.ntmps83 (Nat.le_of_ble_eq_true rfl) (by kernel_rfl) ?_
  repeat' first | refine nx ?_ | refine C_cond_t rfl ?_ | refine C_cond_f rfl ?_ | refine Q_block_on rfl ?_
  (refine C_region ?_
   <;> (refine M_assign ?_; (first | refine M_int rfl ?_ | refine W_move ?_))
   <;> refine W_nil ?_)
  repeat' first | refine nx ?_ | refine C_cond_t rfl ?_ | refine C_cond_f rfl ?_ | refine Q_block_on rfl ?_
  by_cases h1 : a < b
  · (refine C_region ?_
     <;> (first | refine M_int rfl ?_ | refine W_move ?_)
     <;> (first | refine M_int rfl ?_ | refine W_move ?_)
     <;> (refine W_lss rfl rfl (fun hc => ?_) (fun hc => ?_) <;> try (exfalso; omega))
     <;> refine W_nil ?_)
    repeat' first | refine nx ?_ | refine C_cond_t rfl ?_ | refine C_cond_f rfl ?_ | refine Q_block_on rfl ?_
    (refine C_region ?_
     <;> (refine M_assign ?_; (first | refine M_int rfl ?_ | refine W_move ?_))
     <;> refine W_nil ?_)
    repeat' first | refine nx ?_ | refine C_cond_t rfl ?_ | refine C_cond_f rfl ?_ | refine Q_block_on rfl ?_
    exact fin_ret1 rfl ⟨-1, rfl, by omega, rfl⟩
  · (refine C_region ?_
     <;> (first | refine M_int rfl ?_ | refine W_move ?_)
     <;> (first | refine M_int rfl ?_ | refine W_move ?_)
     <;> (refine W_lss rfl rfl (fun hc => ?_) (fun hc => ?_) <;> try (exfalso; omega))
     <;> refine W_nil ?_)
    repeat' first | refine nx ?_ | refine C_cond_t rfl ?_ | refine C_cond_f rfl ?_ | refine Q_block_on rfl ?_
    by_cases h2 : b < a
    · (refine C_region ?_
       <;> (first | refine M_int rfl ?_ | refine W_move ?_)
       <;> (first | refine M_int rfl ?_ | refine W_move ?_)
       <;> (refine W_gtr rfl rfl (fun hc => ?_) (fun hc => ?_) <;> try (exfalso; omega))
       <;> refine W_nil ?_)
      repeat' first | refine nx ?_ | refine C_cond_t rfl ?_ | refine C_cond_f rfl ?_ | refine Q_block_on rfl ?_
      (refine C_region ?_
       <;> (refine M_assign ?_; (first | refine M_int rfl ?_ | refine W_move ?_))
       <;> refine W_nil ?_)
      repeat' first | refine nx ?_ | refine C_cond_t rfl ?_ | refine C_cond_f rfl ?_ | refine Q_block_on rfl ?_
      exact fin_ret1 rfl ⟨1, rfl, by omega, rfl⟩
    · (refine C_region ?_
       <;> (first | refine M_int rfl ?_ | refine W_move ?_)
       <;> (first | refine M_int rfl ?_ | refine W_move ?_)
       <;> (refine W_gtr rfl rfl (fun hc => ?_) (fun hc => ?_) <;> try (exfalso; omega))
       <;> refine W_nil ?_)
      repeat' first | refine nx ?_ | refine C_cond_t rfl ?_ | refine C_cond_f rfl ?_ | refine Q_block_on rfl ?_
      (refine C_region ?_
       <;> (refine M_assign ?_; (first | refine M_int rfl ?_ | refine W_move ?_))
       <;> refine W_nil ?_)
      repeat' first | refine nx ?_ | refine C_cond_t rfl ?_ | refine C_cond_f rfl ?_ | refine Q_block_on rfl ?_
      exact fin_ret1 rfl ⟨0, rfl, by omega, rfl⟩

theorem W_slss {P : Program} {all : Array Oper} {Z : Fr → DS → List PanicEntry → World → Prop} {K : Fr → DS → World → Prop} {rest : List Oper} {f : Fr} {ds : DS} {w : World} {d : Nat} {ty : TypeId} {pos : String} {af : Array Edge} {xt yt : TypeId} {x y : Operand} {s t : List UInt8}
    (hx : ev f x = strV s) (hy : ev f y = strV t) (h : ∀ b : Bool, WOps P all Z K rest (upd f d (.bool b)) ds w) : WOps P all Z K (⟨some d, .binOp .lss xt x y yt, ty, pos, af, none⟩ :: rest) f ds w :=
  W_val (v := .bool (Op.bytesLess s t)) rfl (by simp [execOp, hx, hy, eqGuard, binOp, Op.stringOp]) (h _)
theorem compare_ok : ∀ (n : Nat) (f g : Fml), SizeOf.sizeOf f ≤ n → ∀ (w : World) (v v' : Value), FAt anyB w v f → FAt anyB w v' g → Fn Tryz.prog 58 [v, v'] w fun r w' => ∃ c : Int, r = .int .i64 c ∧ (c = 0 ↔ f = g) ∧ Ext w w' := by
  intro n
  induction n with
  | zero => intro f g hn; cases f; simp at hn
  | succ n ih =>
  intro f g hn w v v' hf hg
  obtain ⟨av, rfl, L, hS, hL, h5, hA⟩ := hf.form
  obtain ⟨bv, rfl, M, hS', hL', h5', hA'⟩ := hg.form
  obtain ⟨aa, ac, rfl, _⟩ := id hS
  obtain ⟨ba, bc, rfl, _⟩ := id hS'
  have hla : f.args.length ≤ 9223372036854775807 := by obtain ⟨_, _, hv, g1, g2, _⟩ := id hS; cases hv; omega
  have hsz : ∀ x ∈ f.args, SizeOf.sizeOf x ≤ n := by
    intro x hx
    cases f with
    | mk o nm vl bd args =>
      have := List.sizeOf_lt_of_mem hx
      simp [Fml.args] at this hn
      omega
  refine fn_of_wc Tryz.func58 rfl Tryz.ntmps58 (Nat.le_of_ble_eq_true rfl) (by kernel_rfl) ?_
  repeat' first | refine nx ?_ | refine C_cond_t rfl ?_ | refine C_cond_f rfl ?_ | refine Q_block_on rfl ?_
  (refine C_region ?_; refine W_box (L := [.int .i64 f.op, strV f.name, .int .i64 f.val, .int .i64 f.bound, .slice aa f.args.length ac]) rfl (fun w1 n1 => ?_))
  refine W_box (L := [.int .i64 g.op, strV g.name, .int .i64 g.val, .int .i64 g.bound, .slice ba g.args.length bc]) rfl (fun w2 n2 => ?_)
  have a2 : Blk w2 w.heap.size 39 [.int .i64 f.op, strV f.name, .int .i64 f.val, .int .i64 f.bound, .slice aa f.args.length ac] := n1.blk.keep n2.keep (by simp)
  have b2 := n2.blk
  have k2 : Ext w w2 := n1.keep.trans n2.keep
  ((refine M_assign ?_; (first | refine M_int rfl ?_ | refine W_move ?_))
   <;> refine W_nil ?_)
  repeat' first | refine nx ?_ | refine C_cond_t rfl ?_ | refine C_cond_f rfl ?_ | refine Q_block_on rfl ?_
  (refine C_region ?_
   <;> refine W_fieldAddr rfl ?_
   <;> (first | refine W_load rfl (Blk.cell (by assumption) (by rfl)) ?_ | refine W_load rfl (by assumption) ?_)
   <;> refine W_fieldAddr rfl ?_
   <;> (first | refine W_load rfl (Blk.cell (by assumption) (by rfl)) ?_ | refine W_load rfl (by assumption) ?_))
  -- at operation 4: <dst=(some 11) op=(call <callee=(value (func 83)) args=[(tmp 8), (tmp 10)] argTypes=[3, 3]>) type=3 guard=none>
  refine W_call (ints_ok _ _ _) rfl ?_
  rintro _ w3 ⟨c0, rfl, h0, rfl⟩
  ((refine M_assign ?_; (first | refine M_int rfl ?_ | refine W_move ?_))
   <;> refine W_nil ?_)
  refine Q_then ?_
  refine C_seq ?_
  refine C_mid (α := Int) (fun c => [(2, pt w.heap.size), (3, pt w1.heap.size), (4, .int .i64 0), (5, .int .i64 c)]) (fun c W => Blk W w.heap.size 39 [.int .i64 f.op, strV f.name, .int .i64 f.val, .int .i64 f.bound, .slice aa f.args.length ac] ∧ Blk W w1.heap.size 39 [.int .i64 g.op, strV g.name, .int .i64 g.val, .int .i64 g.bound, .slice ba g.args.length bc] ∧ Ext w W ∧ (c = 0 ↔ f.op = g.op ∧ f.name = g.name)) ?_ ?_
  · repeat' first | refine nx ?_ | refine C_cond_t rfl ?_ | refine C_cond_f rfl ?_ | refine Q_block_on rfl ?_ | refine Q_join_pan ?_ | refine Q_join_ret ?_ | refine Q_join_exit ?_
    by_cases hc0 : c0 = 0
    · by_cases hnm : f.name = g.name
      · (refine C_region ?_
         <;> (first | refine M_int rfl ?_ | refine W_move ?_)
         <;> (refine W_eql rfl rfl (fun hc => ?_) (fun hc => ?_) <;> try (exfalso; omega))
         <;> (first | refine M_bool rfl ?_ | refine W_move ?_)
         <;> (first | refine W_no rfl ?_ | (refine W_yes rfl ?_; refine W_fieldAddr rfl ?_))
         <;> (first | refine W_no rfl ?_ | (refine W_yes rfl ?_; (first | refine W_load rfl (Blk.cell (by assumption) (by rfl)) ?_ | refine W_load rfl (by assumption) ?_)))
         <;> (first | refine W_no rfl ?_ | (refine W_yes rfl ?_; refine W_fieldAddr rfl ?_))
         <;> (first | refine W_no rfl ?_ | (refine W_yes rfl ?_; (first | refine W_load rfl (Blk.cell (by assumption) (by rfl)) ?_ | refine W_load rfl (by assumption) ?_)))
         <;> (first | refine W_no rfl ?_ | (refine W_yes rfl ?_; refine W_sneq rfl rfl (fun hc => ?_) (fun hc => ?_)))
         <;> ((first | refine M_pick_t rfl ?_ | refine M_pick_f rfl ?_); (first | refine M_bool rfl ?_ | refine W_move ?_))
         <;> refine W_nil ?_)
        · exact absurd hnm (by assumption)
        repeat' first | refine nx ?_ | refine C_cond_t rfl ?_ | refine C_cond_f rfl ?_ | refine Q_block_on rfl ?_ | refine Q_join_pan ?_ | refine Q_join_ret ?_ | refine Q_join_exit ?_
        exact Q_join c0 ⟨rfl, rfl, rfl, rfl, trivial⟩ ⟨a2, b2, k2, by simp_all⟩
      · (refine C_region ?_
         <;> (first | refine M_int rfl ?_ | refine W_move ?_)
         <;> (refine W_eql rfl rfl (fun hc => ?_) (fun hc => ?_) <;> try (exfalso; omega))
         <;> (first | refine M_bool rfl ?_ | refine W_move ?_)
         <;> (first | refine W_no rfl ?_ | (refine W_yes rfl ?_; refine W_fieldAddr rfl ?_))
         <;> (first | refine W_no rfl ?_ | (refine W_yes rfl ?_; (first | refine W_load rfl (Blk.cell (by assumption) (by rfl)) ?_ | refine W_load rfl (by assumption) ?_)))
         <;> (first | refine W_no rfl ?_ | (refine W_yes rfl ?_; refine W_fieldAddr rfl ?_))
         <;> (first | refine W_no rfl ?_ | (refine W_yes rfl ?_; (first | refine W_load rfl (Blk.cell (by assumption) (by rfl)) ?_ | refine W_load rfl (by assumption) ?_)))
         <;> (first | refine W_no rfl ?_ | (refine W_yes rfl ?_; refine W_sneq rfl rfl (fun hc => ?_) (fun hc => ?_)))
         <;> ((first | refine M_pick_t rfl ?_ | refine M_pick_f rfl ?_); (first | refine M_bool rfl ?_ | refine W_move ?_))
         <;> refine W_nil ?_)
        rotate_left
        · exact absurd (by assumption) hnm
        repeat' first | refine nx ?_ | refine C_cond_t rfl ?_ | refine C_cond_f rfl ?_ | refine Q_block_on rfl ?_ | refine Q_join_pan ?_ | refine Q_join_ret ?_ | refine Q_join_exit ?_
        (refine C_region ?_
         <;> (refine M_assign ?_; (first | refine M_int rfl ?_ | refine W_move ?_))
         <;> refine W_nil ?_)
        repeat' first | refine nx ?_ | refine C_cond_t rfl ?_ | refine C_cond_f rfl ?_ | refine Q_block_on rfl ?_ | refine Q_join_pan ?_ | refine Q_join_ret ?_ | refine Q_join_exit ?_
        (refine C_region ?_
         <;> refine W_fieldAddr rfl ?_
         <;> (first | refine W_load rfl (Blk.cell (by assumption) (by rfl)) ?_ | refine W_load rfl (by assumption) ?_)
         <;> refine W_fieldAddr rfl ?_
         <;> (first | refine W_load rfl (Blk.cell (by assumption) (by rfl)) ?_ | refine W_load rfl (by assumption) ?_))
        -- at operation 4: <dst=(some 25) op=(binOp lss 9 (tmp 22) (tmp 24) 9) type=4 guard=none>
        refine W_slss rfl rfl (fun b => ?_)
        refine W_nil ?_
        cases b with
        | true =>
          repeat' first | refine nx ?_ | refine C_cond_t rfl ?_ | refine C_cond_f rfl ?_ | refine Q_block_on rfl ?_ | refine Q_join_pan ?_ | refine Q_join_ret ?_ | refine Q_join_exit ?_
          (refine C_region ?_
           <;> (refine M_assign ?_; (first | refine M_int rfl ?_ | refine W_move ?_))
           <;> refine W_nil ?_)
          repeat' first | refine nx ?_ | refine C_cond_t rfl ?_ | refine C_cond_f rfl ?_ | refine Q_block_on rfl ?_ | refine Q_join_pan ?_ | refine Q_join_ret ?_ | refine Q_join_exit ?_
          exact Q_join (-1) ⟨rfl, rfl, rfl, rfl, trivial⟩ ⟨a2, b2, k2, by simp_all⟩
        | false =>
          repeat' first | refine nx ?_ | refine C_cond_t rfl ?_ | refine C_cond_f rfl ?_ | refine Q_block_on rfl ?_ | refine Q_join_pan ?_ | refine Q_join_ret ?_ | refine Q_join_exit ?_
          exact Q_join 1 ⟨rfl, rfl, rfl, rfl, trivial⟩ ⟨a2, b2, k2, by simp_all⟩
    · (refine C_region ?_
       <;> (first | refine M_int rfl ?_ | refine W_move ?_)
       <;> (refine W_eql rfl rfl (fun hc => ?_) (fun hc => ?_) <;> try (exfalso; omega))
       <;> (first | refine M_bool rfl ?_ | refine W_move ?_)
       <;> (first | refine W_no rfl ?_ | (refine W_yes rfl ?_; refine W_fieldAddr rfl ?_))
       <;> (first | refine W_no rfl ?_ | (refine W_yes rfl ?_; (first | refine W_load rfl (Blk.cell (by assumption) (by rfl)) ?_ | refine W_load rfl (by assumption) ?_)))
       <;> (first | refine W_no rfl ?_ | (refine W_yes rfl ?_; refine W_fieldAddr rfl ?_))
       <;> (first | refine W_no rfl ?_ | (refine W_yes rfl ?_; (first | refine W_load rfl (Blk.cell (by assumption) (by rfl)) ?_ | refine W_load rfl (by assumption) ?_)))
       <;> (first | refine W_no rfl ?_ | (refine W_yes rfl ?_; refine W_sneq rfl rfl (fun hc => ?_) (fun hc => ?_)))
       <;> ((first | refine M_pick_t rfl ?_ | refine M_pick_f rfl ?_); (first | refine M_bool rfl ?_ | refine W_move ?_))
       <;> refine W_nil ?_)
      repeat' first | refine nx ?_ | refine C_cond_t rfl ?_ | refine C_cond_f rfl ?_ | refine Q_block_on rfl ?_ | refine Q_join_pan ?_ | refine Q_join_ret ?_ | refine Q_join_exit ?_
      exact Q_join c0 ⟨rfl, rfl, rfl, rfl, trivial⟩ ⟨a2, b2, k2, by simp_all⟩
  clear a2 b2 k2
  rintro c w3 f3 ⟨a2, b2, k2, hp⟩
  refine C_seq ?_
  refine C_mid (α := Int) (fun c => [(2, pt w.heap.size), (3, pt w1.heap.size), (4, .int .i64 0), (5, .int .i64 c)]) (fun c W => Blk W w.heap.size 39 [.int .i64 f.op, strV f.name, .int .i64 f.val, .int .i64 f.bound, .slice aa f.args.length ac] ∧ Blk W w1.heap.size 39 [.int .i64 g.op, strV g.name, .int .i64 g.val, .int .i64 g.bound, .slice ba g.args.length bc] ∧ Ext w W ∧ (c = 0 ↔ f.op = g.op ∧ f.name = g.name ∧ f.val = g.val)) ?_ ?_
  · repeat' first | refine nx ?_ | refine C_cond_t rfl ?_ | refine C_cond_f rfl ?_ | refine Q_block_on rfl ?_ | refine Q_join_pan ?_ | refine Q_join_ret ?_ | refine Q_join_exit ?_
    by_cases hc0 : c = 0
    · (refine C_region ?_
       <;> (first | refine M_int rfl ?_ | refine W_move ?_)
       <;> (refine W_eql rfl rfl (fun hc => ?_) (fun hc => ?_) <;> try (exfalso; omega))
       <;> refine W_nil ?_)
      repeat' first | refine nx ?_ | refine C_cond_t rfl ?_ | refine C_cond_f rfl ?_ | refine Q_block_on rfl ?_ | refine Q_join_pan ?_ | refine Q_join_ret ?_ | refine Q_join_exit ?_
      (refine C_region ?_
       <;> refine W_fieldAddr rfl ?_
       <;> (first | refine W_load rfl (Blk.cell (by assumption) (by rfl)) ?_ | refine W_load rfl (by assumption) ?_)
       <;> refine W_fieldAddr rfl ?_
       <;> (first | refine W_load rfl (Blk.cell (by assumption) (by rfl)) ?_ | refine W_load rfl (by assumption) ?_))
      -- at operation 4: <dst=(some 32) op=(call <callee=(value (func 83)) args=[(tmp 29), (tmp 31)] argTypes=[3, 3]>) type=3 guard=none>
      refine W_call (ints_ok _ _ _) rfl ?_
      rintro _ w5 ⟨c5, rfl, h5c, rfl⟩
      ((refine M_assign ?_; (first | refine M_int rfl ?_ | refine W_move ?_))
       <;> refine W_nil ?_)
      repeat' first | refine nx ?_ | refine C_cond_t rfl ?_ | refine C_cond_f rfl ?_ | refine Q_block_on rfl ?_ | refine Q_join_pan ?_ | refine Q_join_ret ?_ | refine Q_join_exit ?_
      exact Q_join c5 ⟨rfl, rfl, rfl, rfl, trivial⟩ ⟨a2, b2, k2, by have := hp.1 hc0; constructor <;> intro h <;> simp_all <;> omega⟩
    · (refine C_region ?_
       <;> (first | refine M_int rfl ?_ | refine W_move ?_)
       <;> (refine W_eql rfl rfl (fun hc => ?_) (fun hc => ?_) <;> try (exfalso; omega))
       <;> refine W_nil ?_)
      repeat' first | refine nx ?_ | refine C_cond_t rfl ?_ | refine C_cond_f rfl ?_ | refine Q_block_on rfl ?_ | refine Q_join_pan ?_ | refine Q_join_ret ?_ | refine Q_join_exit ?_
      exact Q_join c ⟨rfl, rfl, rfl, rfl, trivial⟩ ⟨a2, b2, k2, by constructor <;> intro h <;> simp_all⟩
  clear a2 b2 k2 hp
  rintro c w3 f3 ⟨a2, b2, k2, hp⟩
  refine C_seq ?_
  refine C_mid (α := Int) (fun c => [(2, pt w.heap.size), (3, pt w1.heap.size), (4, .int .i64 0), (5, .int .i64 c)]) (fun c W => Blk W w.heap.size 39 [.int .i64 f.op, strV f.name, .int .i64 f.val, .int .i64 f.bound, .slice aa f.args.length ac] ∧ Blk W w1.heap.size 39 [.int .i64 g.op, strV g.name, .int .i64 g.val, .int .i64 g.bound, .slice ba g.args.length bc] ∧ Ext w W ∧ (c = 0 ↔ f.op = g.op ∧ f.name = g.name ∧ f.val = g.val ∧ f.bound = g.bound)) ?_ ?_
  · repeat' first | refine nx ?_ | refine C_cond_t rfl ?_ | refine C_cond_f rfl ?_ | refine Q_block_on rfl ?_ | refine Q_join_pan ?_ | refine Q_join_ret ?_ | refine Q_join_exit ?_
    by_cases hc0 : c = 0
    · (refine C_region ?_
       <;> (first | refine M_int rfl ?_ | refine W_move ?_)
       <;> (refine W_eql rfl rfl (fun hc => ?_) (fun hc => ?_) <;> try (exfalso; omega))
       <;> refine W_nil ?_)
      repeat' first | refine nx ?_ | refine C_cond_t rfl ?_ | refine C_cond_f rfl ?_ | refine Q_block_on rfl ?_ | refine Q_join_pan ?_ | refine Q_join_ret ?_ | refine Q_join_exit ?_
      (refine C_region ?_
       <;> refine W_fieldAddr rfl ?_
       <;> (first | refine W_load rfl (Blk.cell (by assumption) (by rfl)) ?_ | refine W_load rfl (by assumption) ?_)
       <;> refine W_fieldAddr rfl ?_
       <;> (first | refine W_load rfl (Blk.cell (by assumption) (by rfl)) ?_ | refine W_load rfl (by assumption) ?_))
      -- at operation 4: <dst=(some 39) op=(call <callee=(value (func 83)) args=[(tmp 36), (tmp 38)] argTypes=[3, 3]>) type=3 guard=none>
      refine W_call (ints_ok _ _ _) rfl ?_
      rintro _ w5 ⟨c5, rfl, h5c, rfl⟩
      ((refine M_assign ?_; (first | refine M_int rfl ?_ | refine W_move ?_))
       <;> refine W_nil ?_)
      repeat' first | refine nx ?_ | refine C_cond_t rfl ?_ | refine C_cond_f rfl ?_ | refine Q_block_on rfl ?_ | refine Q_join_pan ?_ | refine Q_join_ret ?_ | refine Q_join_exit ?_
      exact Q_join c5 ⟨rfl, rfl, rfl, rfl, trivial⟩ ⟨a2, b2, k2, by have := hp.1 hc0; constructor <;> intro h <;> simp_all <;> omega⟩
    · (refine C_region ?_
       <;> (first | refine M_int rfl ?_ | refine W_move ?_)
       <;> (refine W_eql rfl rfl (fun hc => ?_) (fun hc => ?_) <;> try (exfalso; omega))
       <;> refine W_nil ?_)
      repeat' first | refine nx ?_ | refine C_cond_t rfl ?_ | refine C_cond_f rfl ?_ | refine Q_block_on rfl ?_ | refine Q_join_pan ?_ | refine Q_join_ret ?_ | refine Q_join_exit ?_
      exact Q_join c ⟨rfl, rfl, rfl, rfl, trivial⟩ ⟨a2, b2, k2, by constructor <;> intro h <;> simp_all⟩
  clear a2 b2 k2 hp
  rintro c w3 f3 ⟨a2, b2, k2, hp⟩
  refine C_seq ?_
  refine C_mid (α := Int) (fun c => [(2, pt w.heap.size), (3, pt w1.heap.size), (4, .int .i64 0), (5, .int .i64 c)]) (fun c W => Blk W w.heap.size 39 [.int .i64 f.op, strV f.name, .int .i64 f.val, .int .i64 f.bound, .slice aa f.args.length ac] ∧ Blk W w1.heap.size 39 [.int .i64 g.op, strV g.name, .int .i64 g.val, .int .i64 g.bound, .slice ba g.args.length bc] ∧ Ext w W ∧ (c = 0 ↔ f.op = g.op ∧ f.name = g.name ∧ f.val = g.val ∧ f.bound = g.bound ∧ f.args.length = g.args.length)) ?_ ?_
  · repeat' first | refine nx ?_ | refine C_cond_t rfl ?_ | refine C_cond_f rfl ?_ | refine Q_block_on rfl ?_ | refine Q_join_pan ?_ | refine Q_join_ret ?_ | refine Q_join_exit ?_
    by_cases hc0 : c = 0
    · (refine C_region ?_
       <;> (first | refine M_int rfl ?_ | refine W_move ?_)
       <;> (refine W_eql rfl rfl (fun hc => ?_) (fun hc => ?_) <;> try (exfalso; omega))
       <;> refine W_nil ?_)
      repeat' first | refine nx ?_ | refine C_cond_t rfl ?_ | refine C_cond_f rfl ?_ | refine Q_block_on rfl ?_ | refine Q_join_pan ?_ | refine Q_join_ret ?_ | refine Q_join_exit ?_
      (refine C_region ?_
       <;> refine W_fieldAddr rfl ?_
       <;> (first | refine W_load rfl (Blk.cell (by assumption) (by rfl)) ?_ | refine W_load rfl (by assumption) ?_)
       <;> refine W_len rfl ?_
       <;> refine W_fieldAddr rfl ?_
       <;> (first | refine W_load rfl (Blk.cell (by assumption) (by rfl)) ?_ | refine W_load rfl (by assumption) ?_)
       <;> refine W_len rfl ?_)
      -- at operation 6: <dst=(some 48) op=(call <callee=(value (func 83)) args=[(tmp 44), (tmp 47)] argTypes=[3, 3]>) type=3 guard=none>
      refine W_call (ints_ok _ _ _) rfl ?_
      rintro _ w5 ⟨c5, rfl, h5c, rfl⟩
      ((refine M_assign ?_; (first | refine M_int rfl ?_ | refine W_move ?_))
       <;> refine W_nil ?_)
      repeat' first | refine nx ?_ | refine C_cond_t rfl ?_ | refine C_cond_f rfl ?_ | refine Q_block_on rfl ?_ | refine Q_join_pan ?_ | refine Q_join_ret ?_ | refine Q_join_exit ?_
      exact Q_join c5 ⟨rfl, rfl, rfl, rfl, trivial⟩ ⟨a2, b2, k2, by have := hp.1 hc0; constructor <;> intro h <;> simp_all <;> omega⟩
    · (refine C_region ?_
       <;> (first | refine M_int rfl ?_ | refine W_move ?_)
       <;> (refine W_eql rfl rfl (fun hc => ?_) (fun hc => ?_) <;> try (exfalso; omega))
       <;> refine W_nil ?_)
      repeat' first | refine nx ?_ | refine C_cond_t rfl ?_ | refine C_cond_f rfl ?_ | refine Q_block_on rfl ?_ | refine Q_join_pan ?_ | refine Q_join_ret ?_ | refine Q_join_exit ?_
      exact Q_join c ⟨rfl, rfl, rfl, rfl, trivial⟩ ⟨a2, b2, k2, by constructor <;> intro h <;> simp_all⟩
  clear a2 b2 k2 hp
  rintro c w3 f3 ⟨a2, b2, k2, hp⟩
  refine C_seq ?_
  refine C_seq ?_
  (refine C_region ?_
   <;> (refine M_assign ?_; (first | refine M_int rfl ?_ | refine W_move ?_))
   <;> refine W_nil ?_)
  repeat' first | refine nx ?_ | refine C_cond_t rfl ?_ | refine C_cond_f rfl ?_ | refine Q_block_on rfl ?_
  refine C_loop (α := Nat × Int) (fun x => [(2, pt w.heap.size), (3, pt w1.heap.size), (4, .int .i64 0), (5, .int .i64 x.2), (6, .int .i64 (x.1 : Int))])
    (fun x W => x.1 ≤ f.args.length ∧ Ext w3 W ∧ (x.2 = 0 ↔ (f.op = g.op ∧ f.name = g.name ∧ f.val = g.val ∧ f.bound = g.bound ∧ f.args.length = g.args.length) ∧ ∀ j, j < x.1 → f.args[j]? = g.args[j]?)) (fun x => f.args.length - x.1) (0, c) ⟨rfl, rfl, rfl, rfl, rfl, trivial⟩
    ⟨by simp, Ext.refl _, by simp only; rw [hp]; exact ⟨fun h => ⟨h, fun j hj => by omega⟩, fun h => h.1⟩⟩ ?_
  rintro ⟨i, c'⟩ w4 f4 ⟨hi, k4, hpi⟩
  simp only at hi hpi ⊢
  repeat' first | refine nx ?_ | refine C_cond_t rfl ?_ | refine C_cond_f rfl ?_ | refine Q_block_on rfl ?_
  have hend : ∀ (W : World), Ext w3 W → (c' = 0 → i = f.args.length) → ∃ c0 : Int, Value.int .i64 c' = .int .i64 c0 ∧ (c0 = 0 ↔ f = g) ∧ Ext w W := by
    intro W kW hii
    refine ⟨c', rfl, ?_, k2.trans kW⟩
    rw [fml_eq]
    constructor
    · intro h
      obtain ⟨⟨h1, h2, h3, h4, h5⟩, h6⟩ := hpi.1 h
      refine ⟨h1, h2, h3, h4, List.ext_getElem? fun j => ?_⟩
      by_cases hj : j < i
      · exact h6 j hj
      · have := hii h
        rw [List.getElem?_eq_none (by omega), List.getElem?_eq_none (by omega)]
    · rintro ⟨h1, h2, h3, h4, h5⟩
      exact hpi.2 ⟨⟨h1, h2, h3, h4, by rw [h5]⟩, fun j _ => by rw [h5]⟩
  have a4 := a2.keep k4 (by simp)
  have b4 := b2.keep k4 (by simp)
  by_cases hlt : i < f.args.length
  · by_cases hc0 : c' = 0
    · have hlen : f.args.length = g.args.length := (hpi.1 hc0).1.2.2.2.2
      have kk := k2.trans k4
      obtain ⟨x, hx⟩ : ∃ x, f.args[i]? = some x := ⟨_, List.getElem?_eq_getElem hlt⟩
      obtain ⟨y, hy⟩ : ∃ y, g.args[i]? = some y := ⟨_, List.getElem?_eq_getElem (by omega)⟩
      obtain ⟨cx, hcx⟩ : ∃ cx, L[i]? = some cx := ⟨_, List.getElem?_eq_getElem (by omega)⟩
      obtain ⟨cy, hcy⟩ : ∃ cy, M[i]? = some cy := ⟨_, List.getElem?_eq_getElem (by omega)⟩
      have hfx := (hA i cx x hcx hx).ext kk
      have hfy := (hA' i cy y hcy hy).ext kk
      have hx5 := h5 cx (List.mem_of_getElem? hcx)
      have hy5 := h5' cy (List.mem_of_getElem? hcy)
      obtain ⟨bx, ox, rfl, _, hcellx⟩ := (hS.ext kk).fml h5 hcx hlt
      obtain ⟨by', oy, rfl, _, hcelly⟩ := (hS'.ext kk).fml h5' hcy (by omega)
      obtain ⟨x0, x1, x2, x3, x4, rfl⟩ := cells5 hx5
      obtain ⟨y0, y1, y2, y3, y4, rfl⟩ := cells5 hy5
      (refine C_region ?_
       <;> (first | refine M_int rfl ?_ | refine W_move ?_)
       <;> refine W_fieldAddr rfl ?_
       <;> (first | refine W_load rfl (Blk.cell (by assumption) (by rfl)) ?_ | refine W_load rfl (by assumption) ?_)
       <;> refine W_len rfl ?_
       <;> (refine W_lss rfl rfl (fun hc => ?_) (fun hc => ?_) <;> try (exfalso; omega))
       <;> (first | refine M_bool rfl ?_ | refine W_move ?_)
       <;> (first | refine W_no rfl ?_ | (refine W_yes rfl ?_; (first | refine M_int rfl ?_ | refine W_move ?_)))
       <;> (first | refine W_no rfl ?_ | (refine W_yes rfl ?_; (refine W_eql rfl rfl (fun hc => ?_) (fun hc => ?_) <;> try (exfalso; omega))))
       <;> ((first | refine M_pick_t rfl ?_ | refine M_pick_f rfl ?_); (first | refine M_bool rfl ?_ | refine W_move ?_))
       <;> refine W_nil ?_)
      repeat' first | refine nx ?_ | refine C_cond_t rfl ?_ | refine C_cond_f rfl ?_ | refine Q_block_on rfl ?_
      refine C_drawN (.read 0 (.read 1 (.read 2 (.read 3 (.read 4 (.read 5 (.read 6 (.read 7 (.read 8 (.read 9 (.alt 10 (.read 11 .done) .stop))))))))))) mixed (by kernel_rfl) (fun wd kd ed => ⟨Ext wd, ?_, ?_⟩)
      · exact Ext.refl _
      have fa : ∀ W : World, Ext wd W → W.cell? ⟨w.heap.size, 0 + 4, none⟩ = some (.slice (some ⟨bx, ox, none⟩) f.args.length ac) := fun W e => ((a4.keep kd (by simp)).keep e (by simp)).cell rfl
      have fb : ∀ W : World, Ext wd W → W.cell? ⟨w1.heap.size, 0 + 4, none⟩ = some (.slice (some ⟨by', oy, none⟩) g.args.length bc) := fun W e => ((b4.keep kd (by simp)).keep e (by simp)).cell rfl
      have fc : ∀ W : World, Ext wd W → Cells W bx (ox + i * 5) [x0, x1, x2, x3, x4] := fun W e => (hcellx.keep kd (by simp)).keep e (by simp)
      have fd : ∀ W : World, Ext wd W → Cells W by' (oy + i * 5) [y0, y1, y2, y3, y4] := fun W e => (hcelly.keep kd (by simp)).keep e (by simp)
      ((apply D_R rfl rfl; (intro W hW; refine W_fieldAddr rfl ?_; exact W_nil ⟨rfl, rfl, rfl⟩))
       <;> (apply D_R rfl rfl; (intro W hW; (first | refine W_load rfl (fa W hW) ?_ | refine W_load rfl (fb W hW) ?_ | refine W_load rfl (fc W hW) ?_ | refine W_load rfl (fd W hW) ?_ | refine W_load_agg rfl (by rfl) (fa W hW) ?_ | refine W_load_agg rfl (by rfl) (fb W hW) ?_ | refine W_load_agg rfl (by rfl) (fc W hW) ?_ | refine W_load_agg rfl (by rfl) (fd W hW) ?_); exact W_nil ⟨rfl, rfl, rfl⟩))
       <;> (apply D_R rfl rfl; (intro W hW; (first | refine M_int rfl ?_ | refine W_move ?_); exact W_nil ⟨rfl, rfl, rfl⟩))
       <;> (apply D_R rfl rfl; (intro W hW; (first | refine W_idx1 rfl rfl rfl (by omega) ?_ | refine W_idx rfl rfl rfl (by omega) ?_ | refine W_indexAddr rfl rfl (by omega) (by omega) ?_); exact W_nil ⟨rfl, rfl, rfl⟩))
       <;> (apply D_R rfl rfl; (intro W hW; (first | refine W_load rfl (fa W hW) ?_ | refine W_load rfl (fb W hW) ?_ | refine W_load rfl (fc W hW) ?_ | refine W_load rfl (fd W hW) ?_ | refine W_load_agg rfl (by rfl) (fa W hW) ?_ | refine W_load_agg rfl (by rfl) (fb W hW) ?_ | refine W_load_agg rfl (by rfl) (fc W hW) ?_ | refine W_load_agg rfl (by rfl) (fd W hW) ?_); exact W_nil ⟨rfl, rfl, rfl⟩))
       <;> (apply D_R rfl rfl; (intro W hW; refine W_fieldAddr rfl ?_; exact W_nil ⟨rfl, rfl, rfl⟩))
       <;> (apply D_R rfl rfl; (intro W hW; (first | refine W_load rfl (fa W hW) ?_ | refine W_load rfl (fb W hW) ?_ | refine W_load rfl (fc W hW) ?_ | refine W_load rfl (fd W hW) ?_ | refine W_load_agg rfl (by rfl) (fa W hW) ?_ | refine W_load_agg rfl (by rfl) (fb W hW) ?_ | refine W_load_agg rfl (by rfl) (fc W hW) ?_ | refine W_load_agg rfl (by rfl) (fd W hW) ?_); exact W_nil ⟨rfl, rfl, rfl⟩))
       <;> (apply D_R rfl rfl; (intro W hW; (first | refine M_int rfl ?_ | refine W_move ?_); exact W_nil ⟨rfl, rfl, rfl⟩))
       <;> (apply D_R rfl rfl; (intro W hW; (first | refine W_idx1 rfl rfl rfl (by omega) ?_ | refine W_idx rfl rfl rfl (by omega) ?_ | refine W_indexAddr rfl rfl (by omega) (by omega) ?_); exact W_nil ⟨rfl, rfl, rfl⟩))
       <;> (apply D_R rfl rfl; (intro W hW; (first | refine W_load rfl (fa W hW) ?_ | refine W_load rfl (fb W hW) ?_ | refine W_load rfl (fc W hW) ?_ | refine W_load rfl (fd W hW) ?_ | refine W_load_agg rfl (by rfl) (fa W hW) ?_ | refine W_load_agg rfl (by rfl) (fb W hW) ?_ | refine W_load_agg rfl (by rfl) (fc W hW) ?_ | refine W_load_agg rfl (by rfl) (fd W hW) ?_); exact W_nil ⟨rfl, rfl, rfl⟩)))
      -- at place 10, operation 10: <dst=(some 70) op=(call <callee=(value (func 58)) args=[(tmp 64), (tmp 69)] argTypes=[39, 39]>) type=3 guard=none>
      refine D_E rfl ?_
      refine W_call (ih x y (hsz x (List.mem_of_getElem? hx)) wd _ _ (hfx.ext kd) (hfy.ext kd)) rfl ?_
      rintro _ w6 ⟨c6, rfl, h6, k6⟩
      refine W_nil ⟨Ext w6, fun W e => k6.trans e, Ext.refl _, ?_⟩
      ((apply D_R rfl rfl; (intro W hW; (refine M_assign ?_; (first | refine M_int rfl ?_ | refine W_move ?_)); exact W_nil ⟨rfl, rfl, rfl⟩))
       <;> refine D_nil ?_)
      repeat' first | refine nx ?_ | refine C_cond_t rfl ?_ | refine C_cond_f rfl ?_ | refine Q_block_on rfl ?_
      (refine C_region ?_
       <;> (first | refine M_int rfl ?_ | refine W_move ?_)
       <;> refine W_add rfl rfl (by first | exact inR_i64 (by omega) (by omega) | exact inR_u8 (by omega) (by omega) | exact inR_u16 (by omega) (by omega)) ?_
       <;> (refine M_assign ?_; (first | refine M_int rfl ?_ | refine W_move ?_))
       <;> refine W_nil ?_)
      repeat' first | refine nx ?_ | refine C_cond_t rfl ?_ | refine C_cond_f rfl ?_ | refine Q_block_on rfl ?_
      refine ⟨(i + 1, c6), ⟨rfl, ⟨rfl, rfl, rfl, rfl, ?_, trivial⟩, ⟨by simp only; omega, (k4.trans kd).trans k6, ?_⟩⟩, by simp only; omega⟩
      · show Value.int .i64 ((i : Int) + 1) = _
        rw [Int.natCast_add]; rfl
      · simp only
        rw [h6]
        obtain ⟨hh, hjj⟩ := hpi.1 hc0
        constructor
        · rintro rfl
          refine ⟨hh, fun j hj => ?_⟩
          by_cases hji : j = i
          · subst hji; rw [hx, hy]
          · exact hjj j (by omega)
        · rintro ⟨_, hj⟩
          have := hj i (by omega)
          rw [hx, hy] at this
          exact Option.some.inj this
    · (refine C_region ?_
       <;> (first | refine M_int rfl ?_ | refine W_move ?_)
       <;> refine W_fieldAddr rfl ?_
       <;> (first | refine W_load rfl (Blk.cell (by assumption) (by rfl)) ?_ | refine W_load rfl (by assumption) ?_)
       <;> refine W_len rfl ?_
       <;> (refine W_lss rfl rfl (fun hc => ?_) (fun hc => ?_) <;> try (exfalso; omega))
       <;> (first | refine M_bool rfl ?_ | refine W_move ?_)
       <;> (first | refine W_no rfl ?_ | (refine W_yes rfl ?_; (first | refine M_int rfl ?_ | refine W_move ?_)))
       <;> (first | refine W_no rfl ?_ | (refine W_yes rfl ?_; (refine W_eql rfl rfl (fun hc => ?_) (fun hc => ?_) <;> try (exfalso; omega))))
       <;> ((first | refine M_pick_t rfl ?_ | refine M_pick_f rfl ?_); (first | refine M_bool rfl ?_ | refine W_move ?_))
       <;> refine W_nil ?_)
      repeat' first | refine nx ?_ | refine C_cond_t rfl ?_ | refine C_cond_f rfl ?_ | refine Q_block_on rfl ?_
      (refine C_region ?_
       <;> (first | refine M_int rfl ?_ | refine W_move ?_)
       <;> (refine M_assign ?_; (first | refine M_int rfl ?_ | refine W_move ?_))
       <;> refine W_nil ?_)
      repeat' first | refine nx ?_ | refine C_cond_t rfl ?_ | refine C_cond_f rfl ?_ | refine Q_block_on rfl ?_
      exact fin_ret1 rfl (hend w4 k4 (fun h => absurd h hc0))
  · (refine C_region ?_
     <;> (first | refine M_int rfl ?_ | refine W_move ?_)
     <;> refine W_fieldAddr rfl ?_
     <;> (first | refine W_load rfl (Blk.cell (by assumption) (by rfl)) ?_ | refine W_load rfl (by assumption) ?_)
     <;> refine W_len rfl ?_
     <;> (refine W_lss rfl rfl (fun hc => ?_) (fun hc => ?_) <;> try (exfalso; omega))
     <;> (first | refine M_bool rfl ?_ | refine W_move ?_)
     <;> (first | refine W_no rfl ?_ | (refine W_yes rfl ?_; (first | refine M_int rfl ?_ | refine W_move ?_)))
     <;> (first | refine W_no rfl ?_ | (refine W_yes rfl ?_; (refine W_eql rfl rfl (fun hc => ?_) (fun hc => ?_) <;> try (exfalso; omega))))
     <;> ((first | refine M_pick_t rfl ?_ | refine M_pick_f rfl ?_); (first | refine M_bool rfl ?_ | refine W_move ?_))
     <;> refine W_nil ?_)
    repeat' first | refine nx ?_ | refine C_cond_t rfl ?_ | refine C_cond_f rfl ?_ | refine Q_block_on rfl ?_
    (refine C_region ?_
     <;> (first | refine M_int rfl ?_ | refine W_move ?_)
     <;> (refine M_assign ?_; (first | refine M_int rfl ?_ | refine W_move ?_))
     <;> refine W_nil ?_)
    repeat' first | refine nx ?_ | refine C_cond_t rfl ?_ | refine C_cond_f rfl ?_ | refine Q_block_on rfl ?_
    exact fin_ret1 rfl (hend w4 k4 (fun h => by omega))
theorem same_ok (w : World) (v v' : Value) (f g : Fml) (hf : FAt anyB w v f) (hg : FAt anyB w v' g) : Fn Tryz.prog 39 [v, v'] w fun r w' => ∃ b : Bool, r = .bool b ∧ (b = true ↔ f = g) ∧ Ext w w' := by
  obtain ⟨cs, rfl, hcs, hone⟩ := hf.cells
  obtain ⟨ds, rfl, hds, hone2⟩ := hg.cells
  obtain ⟨c0, c1, c2, c3, c4, rfl⟩ := cells5 hcs
  obtain ⟨d0, d1, d2, d3, d4, rfl⟩ := cells5 hds
  refine fn_of_wc Tryz.func39 rfl Tryz.ntmps39 (Nat.le_of_ble_eq_true rfl) (by kernel_rfl) ?_
  repeat' first | refine nx ?_ | refine C_cond_t rfl ?_ | refine C_cond_f rfl ?_ | refine Q_block_on rfl ?_
  (refine C_region ?_; refine W_box (L := [c0, c1, c2, c3, c4]) rfl (fun w1 n1 => ?_))
  refine W_box (L := [d0, d1, d2, d3, d4]) rfl (fun w2 n2 => ?_)
  have a2 := n1.blk.keep n2.keep (by simp)
  have b2 := n2.blk
  have k2 : Ext w w2 := n1.keep.trans n2.keep
  ((refine M_assign ?_; (first | refine M_bool rfl ?_ | refine W_move ?_))
   <;> refine W_nil ?_)
  repeat' first | refine nx ?_ | refine C_cond_t rfl ?_ | refine C_cond_f rfl ?_ | refine Q_block_on rfl ?_
  (refine C_region ?_; refine W_load_aggB rfl a2 rfl ?_)
  refine W_load_aggB rfl b2 rfl ?_
  refine W_call (compare_ok _ f g (Nat.le_refl _) w2 _ _ (hf.ext k2) (hg.ext k2)) rfl ?_
  rintro _ w3 ⟨c, rfl, hcq, k3⟩
  by_cases h0 : c = 0
  · ((refine W_eql rfl rfl (fun hc => ?_) (fun hc => ?_) <;> try (exfalso; omega))
     <;> (refine M_assign ?_; (first | refine M_bool rfl ?_ | refine W_move ?_))
     <;> refine W_nil ?_)
    repeat' first | refine nx ?_ | refine C_cond_t rfl ?_ | refine C_cond_f rfl ?_ | refine Q_block_on rfl ?_
    exact fin_ret1 rfl ⟨true, rfl, by simp [hcq.1 h0], k2.trans k3⟩
  · ((refine W_eql rfl rfl (fun hc => ?_) (fun hc => ?_) <;> try (exfalso; omega))
     <;> (refine M_assign ?_; (first | refine M_bool rfl ?_ | refine W_move ?_))
     <;> refine W_nil ?_)
    repeat' first | refine nx ?_ | refine C_cond_t rfl ?_ | refine C_cond_f rfl ?_ | refine Q_block_on rfl ?_
    exact fin_ret1 rfl ⟨false, rfl, by simp; exact fun e => h0 (hcq.2 e), k2.trans k3⟩
end Go.Proofs.YtmnhnbpnjepkbaaGreatDoor

namespace Go.Proofs.YtmnhnbpnjepkbaaGreatDoor
open Go.RowKit
set_option linter.unusedVariables false

/-! ### Formulas built -/
/-- v is a formula -/
abbrev FV (w : World) (v : Value) (f : Fml) : Prop := FAt anyB w v f
theorem rop_ok (w : World) (op : Int) (ok : Nat → Prop) (a : Option Addr) (c : Nat) (L : List (List Value)) (l : List Fml) (hS : Sl ok w (.slice a l.length c) l.length L.flatten) (hF : FsAt ok w L l) :
    Fn Tryz.prog 22 [.int .i64 op, .slice a l.length c] w fun v w' => Ext w w' ∧ FAt ok w' v ⟨op, [], 0, 0, l⟩ := by
  refine fn_of_wc Tryz.func22 rfl Tryz.ntmps22 (Nat.le_of_ble_eq_true rfl) (by kernel_rfl) ?_
  repeat' first | refine nx ?_ | refine C_cond_t rfl ?_ | refine C_cond_f rfl ?_ | refine Q_block_on rfl ?_
  (refine C_region ?_)
  -- at operation 0: <dst=(some 4) op=(alloc 39) type=0 guard=none>
  refine W_alloc (fun w1 n1 => ?_)
  have b1 : Blk w1 w.heap.size 39 zero5 := n1.blk
  refine W_nil ?_
  repeat' first | refine nx ?_ | refine C_cond_t rfl ?_ | refine C_cond_f rfl ?_ | refine Q_block_on rfl ?_
  (refine C_region ?_
   <;> (first | refine M_int rfl ?_ | refine W_move ?_)
   <;> (first | refine M_slice rfl ?_ | refine W_move ?_)
   <;> refine W_build (by rfl) (by rfl) ?_)
  -- at operation 3: <dst=none op=(store 39 (tmp 4) (tmp 7)) type=0 guard=none>
  refine W_store_agg (cs := [.int .i64 op, strV [], .int .i64 0, .int .i64 0, .slice a l.length c]) rfl rfl rfl (oneC_all rfl) b1 (by simp [zero5]) (fun w2 p2 => ?_)
  have b2 : Blk w2 w.heap.size 39 [.int .i64 op, strV [], .int .i64 0, .int .i64 0, .slice a l.length c] := p2.blk
  refine W_nil ?_
  repeat' first | refine nx ?_ | refine C_cond_t rfl ?_ | refine C_cond_f rfl ?_ | refine Q_block_on rfl ?_
  have k2 : Ext w w2 := n1.keep.keep p2.keep (by simp)
  exact fin_retA rfl rfl rfl b2.cells ⟨k2, FAt.node op [] 0 0 (hS.ext k2) (hF.ext k2)⟩
theorem rlate_ok (w : World) (op val : Int) (ok : Nat → Prop) (a : Option Addr) (c : Nat) (L : List (List Value)) (l : List Fml) (hS : Sl ok w (.slice a l.length c) l.length L.flatten) (hF : FsAt ok w L l) :
    Fn Tryz.prog 32 [.int .i64 op, .int .i64 val, .slice a l.length c] w fun v w' => Ext w w' ∧ FAt ok w' v ⟨op, [], val, 0, l⟩ := by
  refine fn_of_wc Tryz.func32 rfl Tryz.ntmps32 (Nat.le_of_ble_eq_true rfl) (by kernel_rfl) ?_
  repeat' first | refine nx ?_ | refine C_cond_t rfl ?_ | refine C_cond_f rfl ?_ | refine Q_block_on rfl ?_
  (refine C_region ?_)
  -- at operation 0: <dst=(some 6) op=(alloc 39) type=0 guard=none>
  refine W_alloc (fun w1 n1 => ?_)
  have b1 : Blk w1 w.heap.size 39 zero5 := n1.blk
  refine W_nil ?_
  repeat' first | refine nx ?_ | refine C_cond_t rfl ?_ | refine C_cond_f rfl ?_ | refine Q_block_on rfl ?_
  (refine C_region ?_
   <;> (first | refine M_int rfl ?_ | refine W_move ?_)
   <;> (first | refine M_int rfl ?_ | refine W_move ?_)
   <;> (first | refine M_slice rfl ?_ | refine W_move ?_)
   <;> refine W_build (by rfl) (by rfl) ?_)
  -- at operation 4: <dst=none op=(store 39 (tmp 6) (tmp 10)) type=0 guard=none>
  refine W_store_agg (cs := [.int .i64 op, strV [], .int .i64 val, .int .i64 0, .slice a l.length c]) rfl rfl rfl (oneC_all rfl) b1 (by simp [zero5]) (fun w2 p2 => ?_)
  have b2 : Blk w2 w.heap.size 39 [.int .i64 op, strV [], .int .i64 val, .int .i64 0, .slice a l.length c] := p2.blk
  refine W_nil ?_
  repeat' first | refine nx ?_ | refine C_cond_t rfl ?_ | refine C_cond_f rfl ?_ | refine Q_block_on rfl ?_
  have k2 : Ext w w2 := n1.keep.keep p2.keep (by simp)
  exact fin_retA rfl rfl rfl b2.cells ⟨k2, FAt.node op [] val 0 (hS.ext k2) (hF.ext k2)⟩
theorem ris_ok (w : World) (s : List UInt8) (n : Int) : Fn Tryz.prog 49 [strV s, .int .i64 n] w fun v w' => Ext w w' ∧ FV w' v (isF s n) := by
  refine fn_of_wc Tryz.func49 rfl Tryz.ntmps49 (Nat.le_of_ble_eq_true rfl) (by kernel_rfl) ?_
  repeat' first | refine nx ?_ | refine C_cond_t rfl ?_ | refine C_cond_f rfl ?_ | refine Q_block_on rfl ?_
  (refine C_region ?_)
  -- at operation 0: <dst=(some 4) op=(alloc 39) type=0 guard=none>
  refine W_alloc (fun w1 n1 => ?_)
  have b1 : Blk w1 w.heap.size 39 zero5 := n1.blk
  refine W_nil ?_
  repeat' first | refine nx ?_ | refine C_cond_t rfl ?_ | refine C_cond_f rfl ?_ | refine Q_block_on rfl ?_
  (refine C_region ?_
   <;> (first | refine M_str rfl ?_ | refine W_move ?_)
   <;> (first | refine M_int rfl ?_ | refine W_move ?_)
   <;> refine W_build (by rfl) (by rfl) ?_)
  -- at operation 3: <dst=none op=(store 39 (tmp 4) (tmp 7)) type=0 guard=none>
  refine W_store_agg (cs := [.int .i64 3, strV s, .int .i64 n, .int .i64 0, .slice none 0 0]) rfl rfl rfl (oneC_all rfl) b1 (by simp [zero5]) (fun w2 p2 => ?_)
  have b2 : Blk w2 w.heap.size 39 [.int .i64 3, strV s, .int .i64 n, .int .i64 0, .slice none 0 0] := p2.blk
  refine W_nil ?_
  repeat' first | refine nx ?_ | refine C_cond_t rfl ?_ | refine C_cond_f rfl ?_ | refine Q_block_on rfl ?_
  exact fin_retA rfl rfl rfl b2.cells ⟨n1.keep.keep p2.keep (by simp), FAt.leaf _ _ _ _ _ _⟩
/-- a formula that is returned by way of a place of the function's own -/
theorem FAt.ret {ok : Nat → Prop} {w w' : World} {v : Value} {f : Fml} {b : Nat} {cs : List Value} (h : FAt (fun x => ok x ∧ x ≠ b) w v f) (e : v = .agg cs.toArray) (k : Keep [b] w w') : FAt ok w' (.agg cs.toArray) f := by
  rw [← e]
  exact (h.keep k (fun x hx => by simpa using hx.2)).mono fun x hx => hx.1
theorem roneX_ok (w : World) (op : Int) (ok : Nat → Prop) (v : Value) (f : Fml) (hf : FAt ok w v f) (hk : ok w.heap.size) (hk2 : ∀ x, w.heap.size ≤ x → ok x) : Fn Tryz.prog 30 [.int .i64 op, v] w fun v w' => Ext w w' ∧ FAt ok w' v ⟨op, [], 0, 0, [f]⟩ := by
  have hflt := hf.lt
  obtain ⟨cs, rfl, hcs, hone⟩ := hf.cells
  obtain ⟨c0, c1, c2, c3, c4, rfl⟩ := cells5 hcs
  refine fn_of_wc Tryz.func30 rfl Tryz.ntmps30 (Nat.le_of_ble_eq_true rfl) (by kernel_rfl) ?_
  repeat' first | refine nx ?_ | refine C_cond_t rfl ?_ | refine C_cond_f rfl ?_ | refine Q_block_on rfl ?_
  (refine C_region ?_; refine W_box (L := [c0, c1, c2, c3, c4]) rfl (fun w1 n1 => ?_))
  refine W_alloc (fun w2 n2 => ?_)
  have a2 := n1.blk.keep n2.keep (by simp)
  have b2 : Blk w2 w1.heap.size 39 zero5 := n2.blk
  have k2 : Ext w w2 := n1.keep.trans n2.keep
  have z1 := n1.size
  have z2 := n2.size
  refine W_nil ?_
  repeat' first | refine nx ?_ | refine C_cond_t rfl ?_ | refine C_cond_f rfl ?_ | refine Q_block_on rfl ?_
  (refine C_region ?_
   <;> (first | refine M_int rfl ?_ | refine W_move ?_))
  refine W_load_aggB rfl a2 rfl ?_
  refine W_buildSlice (out := [c0, c1, c2, c3, c4]) rfl (by omega) (by rw [made5]; rfl) (fun w3 n3 => ?_)
  have z3 := n3.size
  obtain ⟨S3, F3⟩ := FsAt.fresh (ok := fun x => ok x ∧ x ≠ w1.heap.size) (L := [[c0, c1, c2, c3, c4]]) n3 (FsAt.one ((hflt.ext k2).mono fun x hx => ⟨hx.1, by omega⟩) rfl) ⟨hk2 _ (by omega), by omega⟩ (by simp)
  refine W_call (rop_ok w3 op _ _ _ _ [f] S3 F3) rfl ?_
  rintro v w4 ⟨k4, f4⟩
  have b4 := (b2.keep n3.keep (by simp)).keep k4 (by simp)
  refine W_storeF rfl rfl f4 b4 rfl (fun w5 cs e hcs k5 z5 b5 => ?_)
  refine W_nil ?_
  repeat' first | refine nx ?_ | refine C_cond_t rfl ?_ | refine C_cond_f rfl ?_ | refine Q_block_on rfl ?_
  exact fin_retA rfl rfl hcs b5.cells ⟨((k2.trans n3.keep).trans k4).keep k5 (by simp; omega), f4.ret e k5⟩
theorem rone_ok (w : World) (op : Int) (v : Value) (f : Fml) (hf : FV w v f) : Fn Tryz.prog 30 [.int .i64 op, v] w fun v w' => Ext w w' ∧ FV w' v ⟨op, [], 0, 0, [f]⟩ := roneX_ok w op anyB v f hf trivial fun _ _ => trivial
theorem rtwo_ok (w : World) (op : Int) (v v' : Value) (f g : Fml) (hf : FV w v f) (hg : FV w v' g) : Fn Tryz.prog 21 [.int .i64 op, v, v'] w fun v w' => Ext w w' ∧ FV w' v ⟨op, [], 0, 0, [f, g]⟩ := by
  have hflt := hf.lt
  have hglt := hg.lt
  obtain ⟨cs, rfl, hcs, hone⟩ := hf.cells
  obtain ⟨ds, rfl, hds, hone2⟩ := hg.cells
  obtain ⟨c0, c1, c2, c3, c4, rfl⟩ := cells5 hcs
  obtain ⟨d0, d1, d2, d3, d4, rfl⟩ := cells5 hds
  refine fn_of_wc Tryz.func21 rfl Tryz.ntmps21 (Nat.le_of_ble_eq_true rfl) (by kernel_rfl) ?_
  repeat' first | refine nx ?_ | refine C_cond_t rfl ?_ | refine C_cond_f rfl ?_ | refine Q_block_on rfl ?_
  (refine C_region ?_; refine W_box (L := [c0, c1, c2, c3, c4]) rfl (fun w1 n1 => ?_))
  refine W_box (L := [d0, d1, d2, d3, d4]) rfl (fun w2 n2 => ?_)
  refine W_alloc (fun w3 n3 => ?_)
  have a3 := (n1.blk.keep n2.keep (by simp)).keep n3.keep (by simp)
  have d3' := n2.blk.keep n3.keep (by simp)
  have b3 : Blk w3 w2.heap.size 39 zero5 := n3.blk
  have k3 : Ext w w3 := (n1.keep.trans n2.keep).trans n3.keep
  have z1 := n1.size
  have z2 := n2.size
  have z3 := n3.size
  refine W_nil ?_
  repeat' first | refine nx ?_ | refine C_cond_t rfl ?_ | refine C_cond_f rfl ?_ | refine Q_block_on rfl ?_
  (refine C_region ?_
   <;> (first | refine M_int rfl ?_ | refine W_move ?_))
  refine W_load_aggB rfl a3 rfl ?_
  refine W_load_aggB rfl d3' rfl ?_
  refine W_buildSlice (out := [c0, c1, c2, c3, c4, d0, d1, d2, d3, d4]) rfl (by omega) (by rw [made10]; rfl) (fun w4 n4 => ?_)
  have z4 := n4.size
  obtain ⟨S4, F4⟩ := FsAt.fresh (ok := fun x => anyB x ∧ x ≠ w2.heap.size) (L := [[c0, c1, c2, c3, c4], [d0, d1, d2, d3, d4]]) n4 (FsAt.two ((hflt.ext k3).mono fun x hx => ⟨trivial, by omega⟩) rfl ((hglt.ext k3).mono fun x hx => ⟨trivial, by omega⟩) rfl) ⟨trivial, by omega⟩ (by simp)
  refine W_call (rop_ok w4 op _ _ _ _ [f, g] S4 F4) rfl ?_
  rintro v w5 ⟨k5, f5⟩
  have b5 := (b3.keep n4.keep (by simp)).keep k5 (by simp)
  refine W_storeF rfl rfl f5 b5 rfl (fun w6 cs e hcs k6 z6 b6 => ?_)
  refine W_nil ?_
  repeat' first | refine nx ?_ | refine C_cond_t rfl ?_ | refine C_cond_f rfl ?_ | refine Q_block_on rfl ?_
  exact fin_retA rfl rfl hcs b6.cells ⟨((k3.trans n4.keep).trans k5).keep k6 (by simp; omega), f5.ret e k6⟩
theorem FAt.any {ok ok' : Nat → Prop} {w w' : World} {v : Value} {f : Fml} (h : FAt ok w v f) (h0 : f.args = []) : FAt ok' w' v f := by
  cases h with
  | mk op nm vl bd args av L hS hL h5 hA =>
    have h0' : args = [] := h0
    subst h0'
    obtain ⟨a, c, rfl, h1, h2, h3, _⟩ := hS
    exact .mk op nm vl bd [] _ [] ⟨a, c, rfl, h1, h2, h3, .inl rfl⟩ rfl (fun c hc => by cases hc) (fun i c g h => by simp at h)
theorem lis_ok (w : World) (s : List UInt8) (n : Int) : Fn Tryz.prog 29 [strV s, .int .i64 n] w fun v w' => Ext w w' ∧ FV w' v (isF s n) := by
  refine fn_of_wc Tryz.func29 rfl Tryz.ntmps29 (Nat.le_of_ble_eq_true rfl) (by kernel_rfl) ?_
  repeat' first | refine nx ?_ | refine C_cond_t rfl ?_ | refine C_cond_f rfl ?_ | refine Q_block_on rfl ?_
  (refine C_region ?_)
  -- at operation 0: <dst=(some 4) op=(alloc 39) type=0 guard=none>
  refine W_alloc (fun w1 n1 => ?_)
  have b1 : Blk w1 w.heap.size 39 zero5 := n1.blk
  have z1 := n1.size
  refine W_nil ?_
  repeat' first | refine nx ?_ | refine C_cond_t rfl ?_ | refine C_cond_f rfl ?_ | refine Q_block_on rfl ?_
  (refine C_region ?_
   <;> (first | refine M_str rfl ?_ | refine W_move ?_)
   <;> (first | refine M_int rfl ?_ | refine W_move ?_))
  -- at operation 2: <dst=(some 7) op=(call <callee=(value (func 49)) args=[(tmp 5), (tmp 6)] argTypes=[9, 3]>) type=39 guard=none>
  refine W_call (ris_ok w1 s n) rfl ?_
  rintro v w2 ⟨k2, f2⟩
  have b2 := b1.keep k2 (by simp)
  refine W_storeF rfl rfl f2 b2 rfl (fun w3 cs e hcs k3 z3 b3 => ?_)
  refine W_nil ?_
  repeat' first | refine nx ?_ | refine C_cond_t rfl ?_ | refine C_cond_f rfl ?_ | refine Q_block_on rfl ?_
  exact fin_retA rfl rfl hcs b3.cells ⟨(n1.keep.trans k2).keep k3 (by simp), by rw [← e]; exact f2.any rfl⟩
theorem lnot_ok (w : World) (v : Value) (f : Fml) (hf : FV w v f) : Fn Tryz.prog 31 [v] w fun v w' => Ext w w' ∧ FV w' v (notF f) := by
  have hflt := hf.lt
  obtain ⟨cs, rfl, hcs, hone⟩ := hf.cells
  obtain ⟨c0, c1, c2, c3, c4, rfl⟩ := cells5 hcs
  refine fn_of_wc Tryz.func31 rfl Tryz.ntmps31 (Nat.le_of_ble_eq_true rfl) (by kernel_rfl) ?_
  repeat' first | refine nx ?_ | refine C_cond_t rfl ?_ | refine C_cond_f rfl ?_ | refine Q_block_on rfl ?_
  (refine C_region ?_; refine W_box (L := [c0, c1, c2, c3, c4]) rfl (fun w1 n1 => ?_))
  refine W_alloc (fun w2 n2 => ?_)
  have a2 := n1.blk.keep n2.keep (by simp)
  have b2 : Blk w2 w1.heap.size 39 zero5 := n2.blk
  have k2 : Ext w w2 := n1.keep.trans n2.keep
  have z1 := n1.size
  have z2 := n2.size
  refine W_nil ?_
  repeat' first | refine nx ?_ | refine C_cond_t rfl ?_ | refine C_cond_f rfl ?_ | refine Q_block_on rfl ?_
  (refine C_region ?_; refine W_load_aggB rfl a2 rfl ?_)
  refine W_call (roneX_ok w2 4 (fun x => x ≠ w1.heap.size) _ f ((hflt.ext k2).mono fun x hx => by omega) (by show w2.heap.size ≠ _; omega) (fun x hx => by show x ≠ _; omega)) rfl ?_
  rintro v w3 ⟨k3, f3⟩
  have b3 := b2.keep k3 (by simp)
  refine W_storeF rfl rfl f3 b3 rfl (fun w4 cs e hcs k4 z4 b4 => ?_)
  refine W_nil ?_
  repeat' first | refine nx ?_ | refine C_cond_t rfl ?_ | refine C_cond_f rfl ?_ | refine Q_block_on rfl ?_
  exact fin_retA rfl rfl hcs b4.cells ⟨(k2.trans k3).keep k4 (by simp; omega), (f3.mono fun x hx => (⟨trivial, hx⟩ : anyB x ∧ x ≠ w1.heap.size)).ret e k4⟩
theorem closed_ok (w : World) (t : List UInt8) (hl : t.length ≤ 1000000) : Fn Tryz.prog 20 [strV t] w fun v w' => v = strV (40 :: (t ++ [10, 41])) ∧ w' = w := by
  refine fn_of_wc Tryz.func20 rfl Tryz.ntmps20 (Nat.le_of_ble_eq_true rfl) (by kernel_rfl) ?_
  repeat' first | refine nx ?_ | refine C_cond_t rfl ?_ | refine C_cond_f rfl ?_ | refine Q_block_on rfl ?_
  (refine C_region ?_
   <;> (refine M_assign ?_; (first | refine M_str rfl ?_ | refine W_move ?_))
   <;> refine W_nil ?_)
  repeat' first | refine nx ?_ | refine C_cond_t rfl ?_ | refine C_cond_f rfl ?_ | refine Q_block_on rfl ?_
  (refine C_region ?_
   <;> (first | refine M_str rfl ?_ | refine W_move ?_))
  -- at operation 1: <dst=(some 4) op=(binOp add 9 (const (string <data=[40]>)) (tmp 3) 9) type=9 guard=none>
  refine W_sadd (s := [40]) (t := t) rfl rfl (by simp; omega) ?_
  refine W_sadd (s := [40] ++ t) (t := [10, 41]) rfl rfl (by simp; omega) ?_
  ((refine M_assign ?_; (first | refine M_str rfl ?_ | refine W_move ?_))
   <;> refine W_nil ?_)
  repeat' first | refine nx ?_ | refine C_cond_t rfl ?_ | refine C_cond_f rfl ?_ | refine Q_block_on rfl ?_
  exact fin_ret1 rfl ⟨by simp [upd, Nat.beq], rfl⟩
end Go.Proofs.YtmnhnbpnjepkbaaGreatDoor
