/- The marks of an event, the record after it. Conditions: none. -/
import Derived.Test.YticliabmhgofjaaR1
namespace Go.Proofs.Yticliabmhgofjaa
open Go.RowKit
set_option linter.unusedVariables false

section
variable {P : Program} {all : Array Oper} {Z : Fr → DS → List PanicEntry → World → Prop} {K : Fr → DS → World → Prop} {rest : List Oper} {f : Fr} {ds : DS} {w : World}
  {d : Nat} {ty : TypeId} {pos : String} {af : Array Edge}
/-- make([]T, 0, n) -/
theorem W_make0 {T e bytes : Nat} {z : Value} {l c : Operand} {k k' : IntKind} {n : Nat} {N M : Int} [hT : SlT P T e 1 bytes z] (hz : z.cells = #[z]) (hl : ev f l = .int k N) (hc : ev f c = .int k' M) (hN : N = 0) (hM : M = (n : Int)) (hb : bytes * n ≤ 281474976710656) (hm : n ≤ 9223372036854775807)
    (h : ∀ w', New w w' e (List.replicate n z) → w'.ownsRow w.heap.size e 1 (.slice (some ⟨w.heap.size, 0, none⟩) 0 n) 0 [] → WOps P all Z K rest (upd f d (.slice (some ⟨w.heap.size, 0, none⟩) 0 n)) ds w') :
    WOps P all Z K (⟨some d, .makeSlice T l c, ty, pos, af, none⟩ :: rest) f ds w := by
  subst hN
  subst hM
  obtain ⟨i, hi, hzz, hsi, hby⟩ := hT.out
  have hb' : (i.bytes : Int) * (n : Int) ≤ 281474976710656 := by
    rw [hby]
    have h : ((bytes * n : Nat) : Int) ≤ 281474976710656 := by omega
    rwa [Int.natCast_mul] at h
  have hr := run_make (P := P) w T e i z hT.und hi hzz k k' 0 n (by omega) (by omega) hb' (by omega)
  have hnew : New w (w.alloc (.cells (madeCells z.cells (n * 1)).toList.toArray e)) e (List.replicate n z) := by
    have := New.mk_alloc w (madeCells z.cells (n * 1)).toList e
    rwa [hz, Nat.mul_one, toList_madeCells_one] at this ⊢
  refine W_val (v := .slice (some ⟨w.heap.size, 0, none⟩) 0 n) (w' := w.alloc (.cells (madeCells z.cells (n * 1)).toList.toArray e)) rfl ?_ (h _ hnew ⟨by simp, .inr ⟨w.heap.size, n, (List.replicate n z).toArray, rfl, Nat.le_refl _, hnew.blk, by omega, by unfold maxLen; omega, by simp, by simp⟩⟩)
  simp [execOp, hl, hc, hr, hsi]
end

def inN (n x : Int) : Bool := decide (1 ≤ x) && decide (x ≤ n)
def mark1 (n m : Int) (L : List (Int × Int)) (x : Int) : List (Int × Int) := if inN n x then insL L x m else L
def markF (n m : Int) (L : List (Int × Int)) (l : List Int) : List (Int × Int) := l.foldl (mark1 n m) L
theorem lookup_mark1 (n m : Int) (L : List (Int × Int)) (x z : Int) : (mark1 n m L x).lookup z = if inN n x = true ∧ z = x then some m else L.lookup z := by
  unfold mark1
  by_cases h : inN n x = true
  · rw [if_pos h, lookup_insL]; simp [h]
  · rw [if_neg h]; simp [h]
theorem lookup_markF (n m : Int) (l : List Int) : ∀ (L : List (Int × Int)) (z : Int), (markF n m L l).lookup z = if inN n z = true ∧ z ∈ l then some m else L.lookup z := by
  induction l with
  | nil => intro L z; simp [markF]
  | cons x l ih =>
    intro L z
    have : markF n m L (x :: l) = markF n m (mark1 n m L x) l := rfl
    rw [this, ih, lookup_mark1]
    by_cases hz : z = x
    · subst hz
      by_cases hn : inN n z = true
      · simp [hn]
      · simp [hn]
    · simp [hz]
theorem markF_snoc (n m : Int) (L : List (Int × Int)) (l : List Int) (x : Int) : markF n m L (l ++ [x]) = mark1 n m (markF n m L l) x := by simp [markF, List.foldl_append]
def namesL (e : Evt) (n : Int) : List (Int × Int) := markF n 2 (markF n 1 [] e.good) e.bad
theorem lookup_names (e : Evt) (n z : Int) : (namesL e n).lookup z = if inN n z = true ∧ z ∈ e.bad then some 2 else if inN n z = true ∧ z ∈ e.good then some 1 else none := by
  rw [namesL, lookup_markF, lookup_markF]; rfl

theorem mark_any (v : Value) (l : List Int) (m n : Int) (pn pm r : Nat) (L : List (Int × Int)) (w : World) (h : Ints w v l) (hn : Blk w pn 3 [.int .i64 n]) (hp : Blk w pm 44 [.map (some r)]) (hL : IMap w r L) (h1 : pn ≠ r) (h2 : pm ≠ r) (hl : ∀ b o, w.cell? ⟨b, o, none⟩ ≠ none → b ≠ r) :
    Fn Try.prog 30 [v, .int .i64 m, .pointer (some ⟨pn, 0, none⟩), .pointer (some ⟨pm, 0, none⟩)] w fun v w' => v = .tuple #[] ∧ Keep [r] w w' ∧ w'.heap.size = w.heap.size ∧ IMap w' r (markF n m L l) := by
  obtain ⟨a, c, rfl, hlc, hc, hx⟩ := h.form
  refine fn_of_wc Try.func30 rfl Try.ntmps30 (Nat.le_of_ble_eq_true rfl) (by kernel_rfl) ?_
  repeat'
    first
      | refine Q_then ?_ | refine C_cond_t rfl ?_ | refine C_cond_f rfl ?_ | refine C_seq ?_ | refine C_block ?_ | refine C_skip ?_ | refine C_ret ?_ | refine C_exit ?_
      | refine Q_then_ret ?_ | refine Q_then_exit ?_ | refine Q_block ?_ | refine Q_block_ret ?_ | refine Q_block_here ?_ | refine Q_block_on rfl ?_ | refine C_scope ?_ | refine C_label ?_ | refine Q_asn ?_
  (refine C_region ?_
   <;> (first | refine M_slice rfl ?_ | refine W_move ?_)
   <;> refine W_len rfl ?_
   <;> (first | refine M_int rfl ?_ | refine W_move ?_)
   <;> refine W_nil ?_)
  repeat'
    first
      | refine Q_then ?_ | refine C_cond_t rfl ?_ | refine C_cond_f rfl ?_ | refine C_seq ?_ | refine C_block ?_ | refine C_skip ?_ | refine C_ret ?_ | refine C_exit ?_
      | refine Q_then_ret ?_ | refine Q_then_exit ?_ | refine Q_block ?_ | refine Q_block_ret ?_ | refine Q_block_here ?_ | refine Q_block_on rfl ?_ | refine C_scope ?_ | refine C_label ?_ | refine Q_asn ?_
  refine C_loop (α := Nat) (fun k => [(1, .int .i64 m), (2, .pointer (some ⟨pn, 0, none⟩)), (3, .pointer (some ⟨pm, 0, none⟩)), (8, .slice a l.length c), (9, .int .i64 l.length), (10, .int .i64 k)]) (fun k w1 => k ≤ l.length ∧ Keep [r] w w1 ∧ w1.heap.size = w.heap.size ∧ IMap w1 r (markF n m L (l.take k))) (fun k => l.length - k) 0 ⟨rfl, rfl, rfl, rfl, rfl, rfl, trivial⟩ ⟨by omega, Keep.refl _ _, rfl, hL⟩ ?_
  rintro k w1 f' ⟨hk, hw, hs, hi⟩
  repeat'
    first
      | refine Q_then ?_ | refine C_cond_t rfl ?_ | refine C_cond_f rfl ?_ | refine C_seq ?_ | refine C_block ?_ | refine C_skip ?_ | refine C_ret ?_ | refine C_exit ?_
      | refine Q_then_ret ?_ | refine Q_then_exit ?_ | refine Q_block ?_ | refine Q_block_ret ?_ | refine Q_block_here ?_ | refine Q_block_on rfl ?_ | refine C_scope ?_ | refine C_label ?_ | refine Q_asn ?_
  (refine C_region ?_
   <;> (refine W_lss rfl rfl (fun hc => ?_) (fun hc => ?_) <;> try (exfalso; omega))
   <;> refine W_nil ?_)
  · repeat'
      first
        | refine Q_then ?_ | refine C_cond_t rfl ?_ | refine C_cond_f rfl ?_ | refine C_seq ?_ | refine C_block ?_ | refine C_skip ?_ | refine C_ret ?_ | refine C_exit ?_
        | refine Q_then_ret ?_ | refine Q_then_exit ?_ | refine Q_block ?_ | refine Q_block_ret ?_ | refine Q_block_here ?_ | refine Q_block_on rfl ?_ | refine C_scope ?_ | refine C_label ?_ | refine Q_asn ?_
    have hk2 : k < l.length := by omega
    obtain ⟨b, o, rfl, g⟩ := hx (by omega)
    have e0 := g k hk2
    have e1 := hw.cell e0 (by simpa using hl b (o + k) (by rw [e0]; simp))
    have hn1 := hn.keep hw (by simpa using h1)
    have hp1 := hp.keep hw (by simpa using h2)
    have hts : markF n m L (l.take (k + 1)) = mark1 n m (markF n m L (l.take k)) l[k] := by rw [List.take_succ_eq_append_getElem hk2, markF_snoc]
    generalize l[k] = x at *
    (refine C_region ?_
     <;> (first | refine W_idx1 rfl rfl rfl (by omega) ?_ | refine W_idx rfl rfl rfl (by omega) ?_ | refine W_indexAddr rfl rfl (by omega) (by omega) ?_)
     <;> (first | refine W_load rfl (Blk.cell (by assumption) (by rfl)) ?_ | refine W_load rfl (by assumption) ?_)
     <;> (refine M_assign ?_; (first | refine M_int rfl ?_ | refine W_move ?_))
     <;> refine W_nil ?_)
    repeat'
      first
        | refine Q_then ?_ | refine C_cond_t rfl ?_ | refine C_cond_f rfl ?_ | refine C_seq ?_ | refine C_block ?_ | refine C_skip ?_ | refine C_ret ?_ | refine C_exit ?_
        | refine Q_then_ret ?_ | refine Q_then_exit ?_ | refine Q_block ?_ | refine Q_block_ret ?_ | refine Q_block_here ?_ | refine Q_block_on rfl ?_ | refine C_scope ?_ | refine C_label ?_ | refine Q_asn ?_
    (refine C_region ?_
     <;> (first | refine M_int rfl ?_ | refine W_move ?_)
     <;> (refine W_geq rfl rfl (fun hc => ?_) (fun hc => ?_) <;> try (exfalso; omega))
     <;> (first | refine M_bool rfl ?_ | refine W_move ?_)
     <;> (first | refine W_no rfl ?_ | (refine W_yes rfl ?_; (first | refine M_int rfl ?_ | refine W_move ?_)))
     <;> (first | refine W_no rfl ?_ | (refine W_yes rfl ?_; (first | refine W_load rfl (Blk.cell (by assumption) (by rfl)) ?_ | refine W_load rfl (by assumption) ?_)))
     <;> (first | refine W_no rfl ?_ | (refine W_yes rfl ?_; (refine W_leq rfl rfl (fun hc => ?_) (fun hc => ?_) <;> try (exfalso; omega))))
     <;> ((first | refine M_pick_t rfl ?_ | refine M_pick_f rfl ?_); (first | refine M_bool rfl ?_ | refine W_move ?_))
     <;> refine W_nil ?_)
    · repeat'
        first
          | refine Q_then ?_ | refine C_cond_t rfl ?_ | refine C_cond_f rfl ?_ | refine C_seq ?_ | refine C_block ?_ | refine C_skip ?_ | refine C_ret ?_ | refine C_exit ?_
          | refine Q_then_ret ?_ | refine Q_then_exit ?_ | refine Q_block ?_ | refine Q_block_ret ?_ | refine Q_block_here ?_ | refine Q_block_on rfl ?_ | refine C_scope ?_ | refine C_label ?_ | refine Q_asn ?_
      (refine C_region ?_
       <;> (first | refine W_load rfl (Blk.cell (by assumption) (by rfl)) ?_ | refine W_load rfl (by assumption) ?_)
       <;> (first | refine M_int rfl ?_ | refine W_move ?_)
       <;> (first | refine M_int rfl ?_ | refine W_move ?_))
      -- at operation 3: <dst=none op=(mapUpdate 44 (tmp 21) (tmp 22) (tmp 23)) type=0 guard=none>
      refine W_mapUpdate rfl rfl rfl hi (fun w2 k2 s2 i2 => ?_)
      refine W_nil ?_
      repeat'
        first
          | refine Q_then ?_ | refine C_cond_t rfl ?_ | refine C_cond_f rfl ?_ | refine C_seq ?_ | refine C_block ?_ | refine C_skip ?_ | refine C_ret ?_ | refine C_exit ?_
          | refine Q_then_ret ?_ | refine Q_then_exit ?_ | refine Q_block ?_ | refine Q_block_ret ?_ | refine Q_block_here ?_ | refine Q_block_on rfl ?_ | refine C_scope ?_ | refine C_label ?_ | refine Q_asn ?_
      (refine C_region ?_
       <;> refine W_add rfl rfl (by first | exact inR_i64 (by omega) (by omega) | exact inR_u8 (by omega) (by omega) | exact inR_u16 (by omega) (by omega)) ?_
       <;> (first | refine M_int rfl ?_ | refine W_move ?_)
       <;> refine W_nil ?_)
      repeat'
        first
          | refine Q_then ?_ | refine C_cond_t rfl ?_ | refine C_cond_f rfl ?_ | refine C_seq ?_ | refine C_block ?_ | refine C_skip ?_ | refine C_ret ?_ | refine C_exit ?_
          | refine Q_then_ret ?_ | refine Q_then_exit ?_ | refine Q_block ?_ | refine Q_block_ret ?_ | refine Q_block_here ?_ | refine Q_block_on rfl ?_ | refine C_scope ?_ | refine C_label ?_ | refine Q_asn ?_
      refine ⟨k + 1, ⟨rfl, ⟨rfl, rfl, rfl, rfl, rfl, rfl, trivial⟩, ⟨by omega, hw.trans k2 (fun x hx _ => hx), by omega, ?_⟩⟩, by omega⟩
      rw [hts, mark1, if_pos (by simp [inN]; omega)]
      exact i2
    all_goals
      repeat'
        first
          | refine Q_then ?_ | refine C_cond_t rfl ?_ | refine C_cond_f rfl ?_ | refine C_seq ?_ | refine C_block ?_ | refine C_skip ?_ | refine C_ret ?_ | refine C_exit ?_
          | refine Q_then_ret ?_ | refine Q_then_exit ?_ | refine Q_block ?_ | refine Q_block_ret ?_ | refine Q_block_here ?_ | refine Q_block_on rfl ?_ | refine C_scope ?_ | refine C_label ?_ | refine Q_asn ?_
      (refine C_region ?_
       <;> refine W_add rfl rfl (by first | exact inR_i64 (by omega) (by omega) | exact inR_u8 (by omega) (by omega) | exact inR_u16 (by omega) (by omega)) ?_
       <;> (first | refine M_int rfl ?_ | refine W_move ?_)
       <;> refine W_nil ?_)
      repeat'
        first
          | refine Q_then ?_ | refine C_cond_t rfl ?_ | refine C_cond_f rfl ?_ | refine C_seq ?_ | refine C_block ?_ | refine C_skip ?_ | refine C_ret ?_ | refine C_exit ?_
          | refine Q_then_ret ?_ | refine Q_then_exit ?_ | refine Q_block ?_ | refine Q_block_ret ?_ | refine Q_block_here ?_ | refine Q_block_on rfl ?_ | refine C_scope ?_ | refine C_label ?_ | refine Q_asn ?_
      refine ⟨k + 1, ⟨rfl, ⟨rfl, rfl, rfl, rfl, rfl, rfl, trivial⟩, ⟨by omega, hw, hs, ?_⟩⟩, by omega⟩
      rw [hts, mark1, if_neg (by simp [inN]; omega)]
      exact hi
  · repeat'
      first
        | refine Q_then ?_ | refine C_cond_t rfl ?_ | refine C_cond_f rfl ?_ | refine C_seq ?_ | refine C_block ?_ | refine C_skip ?_ | refine C_ret ?_ | refine C_exit ?_
        | refine Q_then_ret ?_ | refine Q_then_exit ?_ | refine Q_block ?_ | refine Q_block_ret ?_ | refine Q_block_here ?_ | refine Q_block_on rfl ?_ | refine C_scope ?_ | refine C_label ?_ | refine Q_asn ?_
    rw [List.take_of_length_le (by omega)] at hi
    exact fin_end0 rfl ⟨rfl, hw, hs, hi⟩

theorem names_any (g b : Value) (e : Evt) (n : Int) (w : World) (h : EvAt w g b e) :
    Fn Try.prog 26 [.agg #[g, b], .int .i64 n] w fun v w' => ∃ r, v = .map (some r) ∧ w.heap.size ≤ r ∧ r < w'.heap.size ∧ IMap w' r (namesL e n) ∧ Ext w w' := by
  obtain ⟨h1, h2⟩ := h
  obtain ⟨a1, c1, rfl, _⟩ := h1.form
  obtain ⟨a2, c2, rfl, _⟩ := h2.form
  refine fn_of_wc Try.func26 rfl Try.ntmps26 (Nat.le_of_ble_eq_true rfl) (by kernel_rfl) ?_
  repeat'
    first
      | refine Q_then ?_ | refine C_cond_t rfl ?_ | refine C_cond_f rfl ?_ | refine C_seq ?_ | refine C_block ?_ | refine C_skip ?_ | refine C_ret ?_ | refine C_exit ?_
      | refine Q_then_ret ?_ | refine Q_then_exit ?_ | refine Q_block ?_ | refine Q_block_ret ?_ | refine Q_block_here ?_ | refine Q_block_on rfl ?_ | refine C_scope ?_ | refine C_label ?_ | refine Q_asn ?_
  refine C_region ?_
  refine W_box (L := [.slice a1 e.good.length c1, .slice a2 e.bad.length c2]) rfl (fun w1 n1 => ?_)
  refine W_box (L := [.int .i64 n]) rfl (fun w2 n2 => ?_)
  have z1 := n1.size
  have z2 := n2.size
  have b1 := n1.blk.keep n2.keep (by simp)
  have b2 := n2.blk
  have k2 := n1.keep.trans n2.keep
  clear n1 n2
  ((refine M_assign ?_; (first | refine M_map rfl ?_ | refine W_move ?_))
   <;> refine W_nil ?_)
  repeat'
    first
      | refine Q_then ?_ | refine C_cond_t rfl ?_ | refine C_cond_f rfl ?_ | refine C_seq ?_ | refine C_block ?_ | refine C_skip ?_ | refine C_ret ?_ | refine C_exit ?_
      | refine Q_then_ret ?_ | refine Q_then_exit ?_ | refine Q_block ?_ | refine Q_block_ret ?_ | refine Q_block_here ?_ | refine Q_block_on rfl ?_ | refine C_scope ?_ | refine C_label ?_ | refine Q_asn ?_
  refine C_region ?_
  refine W_makeMap (fun w3 k3 z3 i3 => ?_)
  refine W_alloc (fun w4 n4 => ?_)
  refine W_store (v := .map (some w2.heap.size)) rfl rfl rfl n4.blk (by simp) (fun w5 p5 => ?_)
  have z4 := n4.size
  have z5 := p5.size
  have b5 : Blk w5 w3.heap.size 44 [.map (some w2.heap.size)] := p5.blk
  have k5 : Ext w2 w5 := k3.trans (n4.keep.keep p5.keep (by simp))
  replace i3 := (i3.keep n4.keep (by simp)).keep p5.keep (by simp; omega)
  replace b1 := b1.keep k5 (by simp)
  replace b2 := b2.keep k5 (by simp)
  replace k2 := k2.trans k5
  have hno : ∀ o, w5.cell? ⟨w2.heap.size, o, none⟩ = none := fun o => by
    obtain ⟨es, cl, e1, _⟩ := id i3
    simp [World.cell?, e1]
  clear n4 p5 k5 k3
  refine W_nil ?_
  repeat'
    first
      | refine Q_then ?_ | refine C_cond_t rfl ?_ | refine C_cond_f rfl ?_ | refine C_seq ?_ | refine C_block ?_ | refine C_skip ?_ | refine C_ret ?_ | refine C_exit ?_
      | refine Q_then_ret ?_ | refine Q_then_exit ?_ | refine Q_block ?_ | refine Q_block_ret ?_ | refine Q_block_here ?_ | refine Q_block_on rfl ?_ | refine C_scope ?_ | refine C_label ?_ | refine Q_asn ?_
  (refine C_region ?_
   <;> refine W_makeFunc rfl rfl ?_
   <;> (refine M_assign ?_; (first | refine M_func rfl ?_ | refine W_move ?_))
   <;> refine W_nil ?_)
  repeat'
    first
      | refine Q_then ?_ | refine C_cond_t rfl ?_ | refine C_cond_f rfl ?_ | refine C_seq ?_ | refine C_block ?_ | refine C_skip ?_ | refine C_ret ?_ | refine C_exit ?_
      | refine Q_then_ret ?_ | refine Q_then_exit ?_ | refine Q_block ?_ | refine Q_block_ret ?_ | refine Q_block_here ?_ | refine Q_block_on rfl ?_ | refine C_scope ?_ | refine C_label ?_ | refine Q_asn ?_
  (refine C_region ?_
   <;> (first | refine M_func rfl ?_ | refine W_move ?_)
   <;> refine W_fieldAddr rfl ?_
   <;> (first | refine W_load rfl (Blk.cell (by assumption) (by rfl)) ?_ | refine W_load rfl (by assumption) ?_))
  -- at operation 3: <dst=(some 12) op=(call <callee=(value (tmp 9)) args=[(tmp 11), (const (int i64 1))] argTypes=[22, 3]>) type=0 guard=none>
  refine W_callv (v1 := []) (v2 := [.pointer (some ⟨w1.heap.size, 0, none⟩), .pointer (some ⟨w3.heap.size, 0, none⟩)]) (vs := [.slice a1 e.good.length c1, .int .i64 1]) rfl (mark_any _ e.good 1 n w1.heap.size w3.heap.size w2.heap.size [] w5 (h1.keep k2) b2 b5 i3 (by omega) (by omega) (fun bb o hc e' => hc (e' ▸ hno o))) rfl ?_
  rintro _ w6 ⟨rfl, k6, z6, i6⟩
  replace b1 := b1.keep k6 (by simp; omega)
  replace b2 := b2.keep k6 (by simp; omega)
  replace b5 := b5.keep k6 (by simp; omega)
  replace k2 := k2.keep k6 (by simp; omega)
  have hno : ∀ o, w6.cell? ⟨w2.heap.size, o, none⟩ = none := fun o => by
    obtain ⟨es, cl, e1, _⟩ := id i6
    simp [World.cell?, e1]
  refine W_nil ?_
  repeat'
    first
      | refine Q_then ?_ | refine C_cond_t rfl ?_ | refine C_cond_f rfl ?_ | refine C_seq ?_ | refine C_block ?_ | refine C_skip ?_ | refine C_ret ?_ | refine C_exit ?_
      | refine Q_then_ret ?_ | refine Q_then_exit ?_ | refine Q_block ?_ | refine Q_block_ret ?_ | refine Q_block_here ?_ | refine Q_block_on rfl ?_ | refine C_scope ?_ | refine C_label ?_ | refine Q_asn ?_
  (refine C_region ?_
   <;> (first | refine M_func rfl ?_ | refine W_move ?_)
   <;> refine W_fieldAddr rfl ?_
   <;> (first | refine W_load rfl (Blk.cell (by assumption) (by rfl)) ?_ | refine W_load rfl (by assumption) ?_))
  -- at operation 3: <dst=(some 16) op=(call <callee=(value (tmp 13)) args=[(tmp 15), (const (int i64 2))] argTypes=[22, 3]>) type=0 guard=none>
  refine W_callv (v1 := []) (v2 := [.pointer (some ⟨w1.heap.size, 0, none⟩), .pointer (some ⟨w3.heap.size, 0, none⟩)]) (vs := [.slice a2 e.bad.length c2, .int .i64 2]) rfl (mark_any _ e.bad 2 n w1.heap.size w3.heap.size w2.heap.size _ w6 (h2.keep k2) b2 b5 i6 (by omega) (by omega) (fun bb o hc e' => hc (e' ▸ hno o))) rfl ?_
  rintro _ w7 ⟨rfl, k7, z7, i7⟩
  replace b5 := b5.keep k7 (by simp; omega)
  replace k2 := k2.keep k7 (by simp; omega)
  refine W_nil ?_
  repeat'
    first
      | refine Q_then ?_ | refine C_cond_t rfl ?_ | refine C_cond_f rfl ?_ | refine C_seq ?_ | refine C_block ?_ | refine C_skip ?_ | refine C_ret ?_ | refine C_exit ?_
      | refine Q_then_ret ?_ | refine Q_then_exit ?_ | refine Q_block ?_ | refine Q_block_ret ?_ | refine Q_block_here ?_ | refine Q_block_on rfl ?_ | refine C_scope ?_ | refine C_label ?_ | refine Q_asn ?_
  (refine C_region ?_
   <;> (first | refine W_load rfl (Blk.cell (by assumption) (by rfl)) ?_ | refine W_load rfl (by assumption) ?_)
   <;> (refine M_assign ?_; (first | refine M_map rfl ?_ | refine W_move ?_))
   <;> refine W_nil ?_)
  repeat'
    first
      | refine Q_then ?_ | refine C_cond_t rfl ?_ | refine C_cond_f rfl ?_ | refine C_seq ?_ | refine C_block ?_ | refine C_skip ?_ | refine C_ret ?_ | refine C_exit ?_
      | refine Q_then_ret ?_ | refine Q_then_exit ?_ | refine Q_block ?_ | refine Q_block_ret ?_ | refine Q_block_here ?_ | refine Q_block_on rfl ?_ | refine C_scope ?_ | refine C_label ?_ | refine Q_asn ?_
  exact fin_ret1 rfl ⟨_, rfl, by omega, by omega, i7, k2⟩

/-! ### Closures -/
theorem isBad_any (x : Int) (pm r : Nat) (L : List (Int × Int)) (w : World) (hp : Blk w pm 44 [.map (some r)]) (hL : IMap w r L) :
    Fn Try.prog 27 [.int .i64 x, .pointer (some ⟨pm, 0, none⟩)] w fun v w' => v = .bool ((L.lookup x).getD 0 == 2) ∧ w' = w := by
  refine fn_of_wc Try.func27 rfl Try.ntmps27 (Nat.le_of_ble_eq_true rfl) (by kernel_rfl) ?_
  repeat'
    first
      | refine Q_then ?_ | refine C_cond_t rfl ?_ | refine C_cond_f rfl ?_ | refine C_seq ?_ | refine C_block ?_ | refine C_skip ?_ | refine C_ret ?_ | refine C_exit ?_
      | refine Q_then_ret ?_ | refine Q_then_exit ?_ | refine Q_block ?_ | refine Q_block_ret ?_ | refine Q_block_here ?_ | refine Q_block_on rfl ?_ | refine C_scope ?_ | refine C_label ?_ | refine Q_asn ?_
  (refine C_region ?_
   <;> (refine M_assign ?_; (first | refine M_bool rfl ?_ | refine W_move ?_))
   <;> refine W_nil ?_)
  repeat'
    first
      | refine Q_then ?_ | refine C_cond_t rfl ?_ | refine C_cond_f rfl ?_ | refine C_seq ?_ | refine C_block ?_ | refine C_skip ?_ | refine C_ret ?_ | refine C_exit ?_
      | refine Q_then_ret ?_ | refine Q_then_exit ?_ | refine Q_block ?_ | refine Q_block_ret ?_ | refine Q_block_here ?_ | refine Q_block_on rfl ?_ | refine C_scope ?_ | refine C_label ?_ | refine Q_asn ?_
  (refine C_region ?_
   <;> (first | refine W_load rfl (Blk.cell (by assumption) (by rfl)) ?_ | refine W_load rfl (by assumption) ?_)
   <;> (first | refine M_int rfl ?_ | refine W_move ?_))
  -- at operation 2: <dst=(some 6) op=(lookup 44 (tmp 4) (tmp 5) false) type=3 guard=none>
  refine W_lookup rfl rfl hL ?_
  ((refine W_eql rfl rfl (fun hc => ?_) (fun hc => ?_) <;> try (exfalso; omega))
   <;> (refine M_assign ?_; (first | refine M_bool rfl ?_ | refine W_move ?_))
   <;> refine W_nil ?_)
  · repeat'
      first
        | refine Q_then ?_ | refine C_cond_t rfl ?_ | refine C_cond_f rfl ?_ | refine C_seq ?_ | refine C_block ?_ | refine C_skip ?_ | refine C_ret ?_ | refine C_exit ?_
        | refine Q_then_ret ?_ | refine Q_then_exit ?_ | refine Q_block ?_ | refine Q_block_ret ?_ | refine Q_block_here ?_ | refine Q_block_on rfl ?_ | refine C_scope ?_ | refine C_label ?_ | refine Q_asn ?_
    exact fin_ret1 rfl ⟨by rw [hc]; rfl, rfl⟩
  · repeat'
      first
        | refine Q_then ?_ | refine C_cond_t rfl ?_ | refine C_cond_f rfl ?_ | refine C_seq ?_ | refine C_block ?_ | refine C_skip ?_ | refine C_ret ?_ | refine C_exit ?_
        | refine Q_then_ret ?_ | refine Q_then_exit ?_ | refine Q_block ?_ | refine Q_block_ret ?_ | refine Q_block_here ?_ | refine Q_block_on rfl ?_ | refine C_scope ?_ | refine C_label ?_ | refine Q_asn ?_
    exact fin_ret1 rfl ⟨by rw [beq_false_of_ne hc]; rfl, rfl⟩
theorem isGood_any (x : Int) (pm r : Nat) (L : List (Int × Int)) (w : World) (hp : Blk w pm 44 [.map (some r)]) (hL : IMap w r L) :
    Fn Try.prog 28 [.int .i64 x, .pointer (some ⟨pm, 0, none⟩)] w fun v w' => v = .bool ((L.lookup x).getD 0 == 1) ∧ w' = w := by
  refine fn_of_wc Try.func28 rfl Try.ntmps28 (Nat.le_of_ble_eq_true rfl) (by kernel_rfl) ?_
  repeat'
    first
      | refine Q_then ?_ | refine C_cond_t rfl ?_ | refine C_cond_f rfl ?_ | refine C_seq ?_ | refine C_block ?_ | refine C_skip ?_ | refine C_ret ?_ | refine C_exit ?_
      | refine Q_then_ret ?_ | refine Q_then_exit ?_ | refine Q_block ?_ | refine Q_block_ret ?_ | refine Q_block_here ?_ | refine Q_block_on rfl ?_ | refine C_scope ?_ | refine C_label ?_ | refine Q_asn ?_
  (refine C_region ?_
   <;> (refine M_assign ?_; (first | refine M_bool rfl ?_ | refine W_move ?_))
   <;> refine W_nil ?_)
  repeat'
    first
      | refine Q_then ?_ | refine C_cond_t rfl ?_ | refine C_cond_f rfl ?_ | refine C_seq ?_ | refine C_block ?_ | refine C_skip ?_ | refine C_ret ?_ | refine C_exit ?_
      | refine Q_then_ret ?_ | refine Q_then_exit ?_ | refine Q_block ?_ | refine Q_block_ret ?_ | refine Q_block_here ?_ | refine Q_block_on rfl ?_ | refine C_scope ?_ | refine C_label ?_ | refine Q_asn ?_
  (refine C_region ?_
   <;> (first | refine W_load rfl (Blk.cell (by assumption) (by rfl)) ?_ | refine W_load rfl (by assumption) ?_)
   <;> (first | refine M_int rfl ?_ | refine W_move ?_))
  -- at operation 2: <dst=(some 6) op=(lookup 44 (tmp 4) (tmp 5) false) type=3 guard=none>
  refine W_lookup rfl rfl hL ?_
  ((refine W_eql rfl rfl (fun hc => ?_) (fun hc => ?_) <;> try (exfalso; omega))
   <;> (refine M_assign ?_; (first | refine M_bool rfl ?_ | refine W_move ?_))
   <;> refine W_nil ?_)
  · repeat'
      first
        | refine Q_then ?_ | refine C_cond_t rfl ?_ | refine C_cond_f rfl ?_ | refine C_seq ?_ | refine C_block ?_ | refine C_skip ?_ | refine C_ret ?_ | refine C_exit ?_
        | refine Q_then_ret ?_ | refine Q_then_exit ?_ | refine Q_block ?_ | refine Q_block_ret ?_ | refine Q_block_here ?_ | refine Q_block_on rfl ?_ | refine C_scope ?_ | refine C_label ?_ | refine Q_asn ?_
    exact fin_ret1 rfl ⟨by rw [hc]; rfl, rfl⟩
  · repeat'
      first
        | refine Q_then ?_ | refine C_cond_t rfl ?_ | refine C_cond_f rfl ?_ | refine C_seq ?_ | refine C_block ?_ | refine C_skip ?_ | refine C_ret ?_ | refine C_exit ?_
        | refine Q_then_ret ?_ | refine Q_then_exit ?_ | refine Q_block ?_ | refine Q_block_ret ?_ | refine Q_block_here ?_ | refine Q_block_on rfl ?_ | refine C_scope ?_ | refine C_label ?_ | refine Q_asn ?_
    exact fin_ret1 rfl ⟨by rw [beq_false_of_ne hc]; rfl, rfl⟩

theorem pos_any (v : Value) (l : List Int) (g : FuncId) (v2 : List Value) (p : Int → Bool) (w : World) [PlainFn Try.prog g] (h : Ints w v l) (hg : ∀ x, Fn Try.prog g [.int .i64 x, v2.getD 0 undef] w fun v w' => v = .bool (p x) ∧ w' = w) (hv : v2.length = 1) :
    Fn Try.prog 29 [v, .func (.func g) #[] v2.toArray] w fun v w' => v = .int .i64 (l.findIdx p) ∧ w' = w := by
  obtain ⟨a, c, rfl, hl, hc, hx⟩ := h.form
  obtain ⟨u, rfl⟩ : ∃ u, v2 = [u] := by
    match v2, hv with
    | [u], _ => exact ⟨u, rfl⟩
  refine fn_of_wc Try.func29 rfl Try.ntmps29 (Nat.le_of_ble_eq_true rfl) (by kernel_rfl) ?_
  repeat'
    first
      | refine Q_then ?_ | refine C_cond_t rfl ?_ | refine C_cond_f rfl ?_ | refine C_seq ?_ | refine C_block ?_ | refine C_skip ?_ | refine C_ret ?_ | refine C_exit ?_
      | refine Q_then_ret ?_ | refine Q_then_exit ?_ | refine Q_block ?_ | refine Q_block_ret ?_ | refine Q_block_here ?_ | refine Q_block_on rfl ?_ | refine C_scope ?_ | refine C_label ?_ | refine Q_asn ?_
  (refine C_region ?_
   <;> (refine M_assign ?_; (first | refine M_int rfl ?_ | refine W_move ?_))
   <;> refine W_nil ?_)
  repeat'
    first
      | refine Q_then ?_ | refine C_cond_t rfl ?_ | refine C_cond_f rfl ?_ | refine C_seq ?_ | refine C_block ?_ | refine C_skip ?_ | refine C_ret ?_ | refine C_exit ?_
      | refine Q_then_ret ?_ | refine Q_then_exit ?_ | refine Q_block ?_ | refine Q_block_ret ?_ | refine Q_block_here ?_ | refine Q_block_on rfl ?_ | refine C_scope ?_ | refine C_label ?_ | refine Q_asn ?_
  (refine C_region ?_
   <;> (first | refine M_slice rfl ?_ | refine W_move ?_)
   <;> refine W_len rfl ?_
   <;> (first | refine M_int rfl ?_ | refine W_move ?_)
   <;> refine W_nil ?_)
  repeat'
    first
      | refine Q_then ?_ | refine C_cond_t rfl ?_ | refine C_cond_f rfl ?_ | refine C_seq ?_ | refine C_block ?_ | refine C_skip ?_ | refine C_ret ?_ | refine C_exit ?_
      | refine Q_then_ret ?_ | refine Q_then_exit ?_ | refine Q_block ?_ | refine Q_block_ret ?_ | refine Q_block_here ?_ | refine Q_block_on rfl ?_ | refine C_scope ?_ | refine C_label ?_ | refine Q_asn ?_
  refine C_loop (α := Nat) (fun k => [(0, .slice a l.length c), (1, .func (.func g) #[] #[u]), (7, .slice a l.length c), (8, .int .i64 l.length), (9, .int .i64 k)]) (fun k w1 => k ≤ l.length ∧ w1 = w ∧ (l.take k).any p = false) (fun k => l.length - k) 0 ⟨rfl, rfl, rfl, rfl, rfl, trivial⟩ ⟨by omega, rfl, rfl⟩ ?_
  rintro k w1 f' ⟨hk, rfl, ht⟩
  repeat'
    first
      | refine Q_then ?_ | refine C_cond_t rfl ?_ | refine C_cond_f rfl ?_ | refine C_seq ?_ | refine C_block ?_ | refine C_skip ?_ | refine C_ret ?_ | refine C_exit ?_
      | refine Q_then_ret ?_ | refine Q_then_exit ?_ | refine Q_block ?_ | refine Q_block_ret ?_ | refine Q_block_here ?_ | refine Q_block_on rfl ?_ | refine C_scope ?_ | refine C_label ?_ | refine Q_asn ?_
  (refine C_region ?_
   <;> (refine W_lss rfl rfl (fun hc => ?_) (fun hc => ?_) <;> try (exfalso; omega))
   <;> refine W_nil ?_)
  · repeat'
      first
        | refine Q_then ?_ | refine C_cond_t rfl ?_ | refine C_cond_f rfl ?_ | refine C_seq ?_ | refine C_block ?_ | refine C_skip ?_ | refine C_ret ?_ | refine C_exit ?_
        | refine Q_then_ret ?_ | refine Q_then_exit ?_ | refine Q_block ?_ | refine Q_block_ret ?_ | refine Q_block_here ?_ | refine Q_block_on rfl ?_ | refine C_scope ?_ | refine C_label ?_ | refine Q_asn ?_
    have hk2 : k < l.length := by omega
    obtain ⟨b, o, rfl, g0⟩ := hx (by omega)
    have e1 := g0 k hk2
    have hts : (l.take (k + 1)).any p = ((l.take k).any p || p l[k]) := by rw [List.take_succ_eq_append_getElem hk2, List.any_append]; simp
    (refine C_region ?_
     <;> (first | refine M_int rfl ?_ | refine W_move ?_)
     <;> (first | refine W_idx1 rfl rfl rfl (by omega) ?_ | refine W_idx rfl rfl rfl (by omega) ?_ | refine W_indexAddr rfl rfl (by omega) (by omega) ?_)
     <;> (first | refine W_load rfl (Blk.cell (by assumption) (by rfl)) ?_ | refine W_load rfl (by assumption) ?_)
     <;> (refine M_assign ?_; (first | refine M_int rfl ?_ | refine W_move ?_))
     <;> (refine M_assign ?_; (first | refine M_int rfl ?_ | refine W_move ?_))
     <;> refine W_nil ?_)
    repeat'
      first
        | refine Q_then ?_ | refine C_cond_t rfl ?_ | refine C_cond_f rfl ?_ | refine C_seq ?_ | refine C_block ?_ | refine C_skip ?_ | refine C_ret ?_ | refine C_exit ?_
        | refine Q_then_ret ?_ | refine Q_then_exit ?_ | refine Q_block ?_ | refine Q_block_ret ?_ | refine Q_block_here ?_ | refine Q_block_on rfl ?_ | refine C_scope ?_ | refine C_label ?_ | refine Q_asn ?_
    (refine C_region ?_
     <;> (first | refine M_func rfl ?_ | refine W_move ?_)
     <;> (first | refine M_int rfl ?_ | refine W_move ?_))
    -- at operation 2: <dst=(some 16) op=(call <callee=(value (tmp 14)) args=[(tmp 15)] argTypes=[3]>) type=4 guard=none>
    refine W_callv (v1 := []) (v2 := [u]) (vs := [.int .i64 l[k]]) rfl (hg l[k]) rfl ?_
    rintro _ w2 ⟨rfl, rfl⟩
    (refine W_nil ?_)
    cases hp : p l[k] with
    | true =>
      repeat'
        first
          | refine Q_then ?_ | refine C_cond_t rfl ?_ | refine C_cond_f rfl ?_ | refine C_seq ?_ | refine C_block ?_ | refine C_skip ?_ | refine C_ret ?_ | refine C_exit ?_
          | refine Q_then_ret ?_ | refine Q_then_exit ?_ | refine Q_block ?_ | refine Q_block_ret ?_ | refine Q_block_here ?_ | refine Q_block_on rfl ?_ | refine C_scope ?_ | refine C_label ?_ | refine Q_asn ?_
      (refine C_region ?_
       <;> (first | refine M_int rfl ?_ | refine W_move ?_)
       <;> (refine M_assign ?_; (first | refine M_int rfl ?_ | refine W_move ?_))
       <;> refine W_nil ?_)
      repeat'
        first
          | refine Q_then ?_ | refine C_cond_t rfl ?_ | refine C_cond_f rfl ?_ | refine C_seq ?_ | refine C_block ?_ | refine C_skip ?_ | refine C_ret ?_ | refine C_exit ?_
          | refine Q_then_ret ?_ | refine Q_then_exit ?_ | refine Q_block ?_ | refine Q_block_ret ?_ | refine Q_block_here ?_ | refine Q_block_on rfl ?_ | refine C_scope ?_ | refine C_label ?_ | refine Q_asn ?_
      refine fin_ret1 rfl ⟨congrArg (Value.int .i64) ?_, rfl⟩
      show (k : Int) = _
      congr 1
      symm
      rw [List.findIdx_eq hk2]
      refine ⟨hp, fun j hj => ?_⟩
      rw [List.any_eq_false] at ht
      have := ht (l[j]'(by omega)) (List.mem_take_iff_getElem.2 ⟨j, by omega, rfl⟩)
      simpa using this
    | false =>
      repeat'
        first
          | refine Q_then ?_ | refine C_cond_t rfl ?_ | refine C_cond_f rfl ?_ | refine C_seq ?_ | refine C_block ?_ | refine C_skip ?_ | refine C_ret ?_ | refine C_exit ?_
          | refine Q_then_ret ?_ | refine Q_then_exit ?_ | refine Q_block ?_ | refine Q_block_ret ?_ | refine Q_block_here ?_ | refine Q_block_on rfl ?_ | refine C_scope ?_ | refine C_label ?_ | refine Q_asn ?_
      (refine C_region ?_
       <;> refine W_add rfl rfl (by first | exact inR_i64 (by omega) (by omega) | exact inR_u8 (by omega) (by omega) | exact inR_u16 (by omega) (by omega)) ?_
       <;> (first | refine M_int rfl ?_ | refine W_move ?_)
       <;> refine W_nil ?_)
      repeat'
        first
          | refine Q_then ?_ | refine C_cond_t rfl ?_ | refine C_cond_f rfl ?_ | refine C_seq ?_ | refine C_block ?_ | refine C_skip ?_ | refine C_ret ?_ | refine C_exit ?_
          | refine Q_then_ret ?_ | refine Q_then_exit ?_ | refine Q_block ?_ | refine Q_block_ret ?_ | refine Q_block_here ?_ | refine Q_block_on rfl ?_ | refine C_scope ?_ | refine C_label ?_ | refine Q_asn ?_
      exact ⟨k + 1, ⟨rfl, ⟨rfl, rfl, rfl, rfl, rfl, trivial⟩, ⟨by omega, rfl, by rw [hts, ht, hp]; rfl⟩⟩, by omega⟩
  · repeat'
      first
        | refine Q_then ?_ | refine C_cond_t rfl ?_ | refine C_cond_f rfl ?_ | refine C_seq ?_ | refine C_block ?_ | refine C_skip ?_ | refine C_ret ?_ | refine C_exit ?_
        | refine Q_then_ret ?_ | refine Q_then_exit ?_ | refine Q_block ?_ | refine Q_block_ret ?_ | refine Q_block_here ?_ | refine Q_block_on rfl ?_ | refine C_scope ?_ | refine C_label ?_ | refine Q_asn ?_
    (refine C_region ?_
     <;> (first | refine M_slice rfl ?_ | refine W_move ?_)
     <;> refine W_len rfl ?_
     <;> (refine M_assign ?_; (first | refine M_int rfl ?_ | refine W_move ?_))
     <;> refine W_nil ?_)
    repeat'
      first
        | refine Q_then ?_ | refine C_cond_t rfl ?_ | refine C_cond_f rfl ?_ | refine C_seq ?_ | refine C_block ?_ | refine C_skip ?_ | refine C_ret ?_ | refine C_exit ?_
        | refine Q_then_ret ?_ | refine Q_then_exit ?_ | refine Q_block ?_ | refine Q_block_ret ?_ | refine Q_block_here ?_ | refine Q_block_on rfl ?_ | refine C_scope ?_ | refine C_label ?_ | refine Q_asn ?_
    rw [List.take_of_length_le (by omega)] at ht
    refine fin_ret1 rfl ⟨congrArg (Value.int .i64) ?_, rfl⟩
    show (l.length : Int) = _
    congr 1
    symm
    rw [List.findIdx_eq_length]
    rw [List.any_eq_false] at ht
    exact fun x hx => by simpa using ht x hx
end Go.Proofs.Yticliabmhgofjaa
