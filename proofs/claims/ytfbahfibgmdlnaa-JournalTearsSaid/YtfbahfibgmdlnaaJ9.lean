/- The journal's frames, walked. Conditions: none. -/
import Derived.Test.YtfbahfibgmdlnaaJ8
namespace Go.Proofs.Ytfbahfibgmdlnaa
open Go.RowKit
set_option linter.unusedVariables false

theorem two_un (a b : UInt8) : two (un a b) = [a, b] := by
  have ha := a.toNat_lt
  have hb := b.toNat_lt
  have h1 : un a b / 256 = a.toNat := by unfold un; omega
  have h2 : un a b % 256 = b.toNat := by unfold un; omega
  simp [two, b8, h1, h2]

theorem take_two {b : List UInt8} (h : 2 ≤ b.length) : b.take 2 = [b.getD 0 0, b.getD 1 0] := by
  match b, h with
  | _ :: _ :: _, _ => rfl

theorem first_of {b : List UInt8} (h6 : 6 ≤ b.length) {n : Nat} (hn : un (b.getD 0 0) (b.getD 1 0) = n) (h1 : 1 ≤ n) (h2 : n ≤ 4000) (h3 : 6 + n ≤ b.length) :
    first b = if chk (b.take 2 ++ (b.drop 6).take n) = (b.drop 2).take 4 then some ((b.drop 6).take n) else none := by
  have hl : ((b.drop 6).take n).length = n := by simp; omega
  have ht : b.take 2 = two n := by
    rw [← hn, two_un]
    exact take_two (by omega)
  have hsplit : b.take (6 + n) = b.take 2 ++ (b.drop 2).take 4 ++ (b.drop 6).take n := by
    have e1 : b.take (6 + n) = b.take 6 ++ (b.drop 6).take n := by rw [List.take_add]
    have e2 : b.take 6 = b.take 2 ++ (b.drop 2).take 4 := by rw [show (6 : Nat) = 2 + 4 from rfl, List.take_add]
    rw [e1, e2]
  unfold first
  rw [if_neg (by omega)]
  simp only [hn]
  rw [if_neg (by omega), hsplit]
  have hiff : frm ((b.drop 6).take n) = b.take 2 ++ (b.drop 2).take 4 ++ (b.drop 6).take n ↔ chk (b.take 2 ++ (b.drop 6).take n) = (b.drop 2).take 4 := by
    unfold frm
    rw [hl, ← ht]
    constructor
    · intro h
      exact List.append_cancel_left (List.append_cancel_right h)
    · intro h; rw [h]
  by_cases hc : chk (b.take 2 ++ (b.drop 6).take n) = (b.drop 2).take 4
  · rw [if_pos hc, if_pos (hiff.2 hc)]
  · rw [if_neg hc, if_neg (fun h => hc (hiff.1 h))]
theorem first_none {b : List UInt8} (h : b.length < 6 ∨ un (b.getD 0 0) (b.getD 1 0) < 1 ∨ 4000 < un (b.getD 0 0) (b.getD 1 0) ∨ b.length < 6 + un (b.getD 0 0) (b.getD 1 0)) : first b = none := by
  unfold first
  split
  · rfl
  · rename_i h1
    simp only
    rw [if_pos (h.resolve_left h1)]

/-- what a round of a range over the frames of l keeps and brings on -/
structure Rounds (yv : Value) (bp : Nat) (a : Option Addr) (c : Nat) (l : List UInt8) (J : List (List UInt8) → Nat → World → Prop) : Prop where
  ext : ∀ rs o w w', J rs o w → Ext w w' → J rs o w'
  cell : ∀ rs o w, J rs o w → w.cell? ⟨bp, 0, none⟩ = some (.slice a l.length c) ∧ BytesAt anyB w (.slice a l.length c) l
  step : ∀ rs o w r pv, J rs o w → rs.length < 500 → first (l.drop o) = some r → o ≤ l.length → BytesAt anyB w pv r →
    YldP Try.prog yv [.int .i64 ((o + (6 + r.length) : Nat) : Int), pv] w (fun v w' => v = .bool true ∧ J (rs ++ [r]) (o + (6 + r.length)) w') fun _ _ => False

theorem BytesAt.cellsX {ok : Nat → Prop} {w : World} {b o c n : Nat} {l : List UInt8} (h : BytesAt ok w (.slice (some ⟨b, o, none⟩) n c) l) (h0 : 0 < l.length) : Cells w b o (cells8 l) := by
  obtain ⟨a', c', he, h1, h2, h3, h4⟩ := h
  cases he
  obtain ⟨b', o', e, hb, hc⟩ := h4.resolve_left (by omega)
  cases e
  exact hc
theorem LB_two {w w' : World} {v1 v2 : Value} {p r : List UInt8} (n : New w w' 24 [v1, v2]) (h1 : BytesAt anyB w' v1 p) (h2 : BytesAt anyB w' v2 r) : LB anyB w' (.slice (some ⟨w.heap.size, 0, none⟩) 2 2) [p, r] := by
  have o := n.own (n := 2) (size := 1) rfl (by unfold maxLen; omega) (Nat.le_refl _)
  refine ⟨[v1, v2], Sl_of_own o fun _ _ => trivial, rfl, fun i u l hu hl => ?_⟩
  match i with
  | 0 => simp at hu hl; subst hu; subst hl; exact h1
  | 1 => simp at hu hl; subst hu; subst hl; exact h2
  | i + 2 => simp at hu

theorem framesIt_any (yv : Value) (bp : Nat) (a : Option Addr) (c : Nat) (l : List UInt8) (J : List (List UInt8) → Nat → World → Prop) (H : Rounds yv bp a c l J) (w : World) (hJ : J [] 0 w) (hyv : ∃ y, yv = .func (.yield y) #[] #[]) :
    Fn Try.prog 31 [yv, .pointer (some ⟨bp, 0, none⟩)] w fun _ w' => J (recs 500 l).1 (recs 500 l).2 w' := by
  obtain ⟨y, rfl⟩ := hyv
  obtain ⟨hl, hc⟩ := (H.cell _ _ _ hJ).2.len.2
  refine fn_of_wc Try.func31 rfl Try.ntmps31 (Nat.le_of_ble_eq_true rfl) (by kernel_rfl) ?_
  repeat'
    first
      | refine Q_then ?_ | refine C_cond_t rfl ?_ | refine C_cond_f rfl ?_ | refine C_seq ?_ | refine C_block ?_ | refine C_skip ?_ | refine C_ret ?_ | refine C_exit ?_
      | refine Q_then_ret ?_ | refine Q_then_exit ?_ | refine Q_block ?_ | refine Q_block_ret ?_ | refine Q_block_here ?_ | refine Q_block_on rfl ?_ | refine C_scope ?_ | refine C_label ?_ | refine Q_asn ?_
  (refine C_region ?_
   <;> (refine M_assign ?_; (first | refine M_int rfl ?_ | refine W_move ?_))
   <;> refine W_nil ?_)
  repeat'
    first
      | refine Q_then ?_ | refine C_cond_t rfl ?_ | refine C_cond_f rfl ?_ | refine C_seq ?_ | refine C_block ?_ | refine C_skip ?_ | refine C_ret ?_ | refine C_exit ?_
      | refine Q_then_ret ?_ | refine Q_then_exit ?_ | refine Q_block ?_ | refine Q_block_ret ?_ | refine Q_block_here ?_ | refine Q_block_on rfl ?_ | refine C_scope ?_ | refine C_label ?_ | refine Q_asn ?_
  (refine C_region ?_
   <;> (first | refine M_int rfl ?_ | refine W_move ?_)
   <;> refine W_nil ?_)
  repeat'
    first
      | refine Q_then ?_ | refine C_cond_t rfl ?_ | refine C_cond_f rfl ?_ | refine C_seq ?_ | refine C_block ?_ | refine C_skip ?_ | refine C_ret ?_ | refine C_exit ?_
      | refine Q_then_ret ?_ | refine Q_then_exit ?_ | refine Q_block ?_ | refine Q_block_ret ?_ | refine Q_block_here ?_ | refine Q_block_on rfl ?_ | refine C_scope ?_ | refine C_label ?_ | refine Q_asn ?_
  refine C_loop (α := List (List UInt8) × Nat) (fun x => [(0, .func (.yield y) #[] #[]), (1, .pointer (some ⟨bp, 0, none⟩)), (3, .int .i64 x.2), (7, .int .i64 x.1.length)])
    (fun x wk => x.1.length ≤ 500 ∧ x.2 ≤ l.length ∧ recs 500 l = (x.1 ++ (recs (500 - x.1.length) (l.drop x.2)).1, x.2 + (recs (500 - x.1.length) (l.drop x.2)).2) ∧ J x.1 x.2 wk)
    (fun x => 500 - x.1.length) ([], 0) ⟨rfl, rfl, rfl, rfl, trivial⟩ ⟨by simp, by simp, by simp, hJ⟩ ?_
  rintro ⟨rs, o⟩ wk f' ⟨hk, ho, hr, hj⟩
  simp only at hk ho hr hj
  change WC _ _ _ _ (ov [(0, .func (.yield y) #[] #[]), (1, .pointer (some ⟨bp, 0, none⟩)), (3, .int .i64 (o : Int)), (7, .int .i64 (rs.length : Int))] f') _ _
  repeat'
    first
      | refine Q_then ?_ | refine C_cond_t rfl ?_ | refine C_cond_f rfl ?_ | refine C_seq ?_ | refine C_block ?_ | refine C_skip ?_ | refine C_ret ?_ | refine C_exit ?_
      | refine Q_then_ret ?_ | refine Q_then_exit ?_ | refine Q_block ?_ | refine Q_block_ret ?_ | refine Q_block_here ?_ | refine Q_block_on rfl ?_ | refine C_scope ?_ | refine C_label ?_ | refine Q_asn ?_
  (refine C_region ?_
   <;> (refine W_lss rfl rfl (fun hc => ?_) (fun hc => ?_) <;> try (exfalso; omega))
   <;> refine W_nil ?_)
  · obtain ⟨hcell, hby⟩ := H.cell _ _ _ hj
    have e500 : 500 - rs.length = (500 - (rs.length + 1)) + 1 := by omega
    rw [e500] at hr
    repeat'
      first
        | refine Q_then ?_ | refine C_cond_t rfl ?_ | refine C_cond_f rfl ?_ | refine C_seq ?_ | refine C_block ?_ | refine C_skip ?_ | refine C_ret ?_ | refine C_exit ?_
        | refine Q_then_ret ?_ | refine Q_then_exit ?_ | refine Q_block ?_ | refine Q_block_ret ?_ | refine Q_block_here ?_ | refine Q_block_on rfl ?_ | refine C_scope ?_ | refine C_label ?_ | refine Q_asn ?_
    (refine C_region ?_
     <;> (first | refine W_load rfl (Blk.cell (by assumption) (by rfl)) ?_ | refine W_load rfl (by assumption) ?_)
     <;> (first | refine M_int rfl ?_ | refine W_move ?_)
     <;> refine W_slice_l rfl rfl (by omega) (by omega) ?_
     <;> (refine M_assign ?_; (first | refine M_slice rfl ?_ | refine W_move ?_))
     <;> refine W_nil ?_)
    have to : (o : Int).toNat = o := rfl
    rw [to]
    have hb := hby.drop o (by omega)
    have hbl : (l.drop o).length = l.length - o := by simp
    have hstep := fun r pv w1 (k : Ext wk w1) hf => H.step rs o w1 r pv (H.ext _ _ _ _ hj k) (by omega) hf ho
    generalize hbdef : l.drop o = b at *
    generalize hav : adv c o 1 a = av at *
    rw [← hbl] at hb ⊢
    repeat'
      first
        | refine Q_then ?_ | refine C_cond_t rfl ?_ | refine C_cond_f rfl ?_ | refine C_seq ?_ | refine C_block ?_ | refine C_skip ?_ | refine C_ret ?_ | refine C_exit ?_
        | refine Q_then_ret ?_ | refine Q_then_exit ?_ | refine Q_block ?_ | refine Q_block_ret ?_ | refine Q_block_here ?_ | refine Q_block_on rfl ?_ | refine C_scope ?_ | refine C_label ?_ | refine Q_asn ?_
    (refine C_region ?_
     <;> (first | refine M_slice rfl ?_ | refine W_move ?_)
     <;> refine W_len rfl ?_
     <;> (refine W_lss rfl rfl (fun hc => ?_) (fun hc => ?_) <;> try (exfalso; omega))
     <;> refine W_nil ?_)
    · repeat'
        first
          | refine Q_then ?_ | refine C_cond_t rfl ?_ | refine C_cond_f rfl ?_ | refine C_seq ?_ | refine C_block ?_ | refine C_skip ?_ | refine C_ret ?_ | refine C_exit ?_
          | refine Q_then_ret ?_ | refine Q_then_exit ?_ | refine Q_block ?_ | refine Q_block_ret ?_ | refine Q_block_here ?_ | refine Q_block_on rfl ?_ | refine C_scope ?_ | refine C_label ?_ | refine Q_asn ?_
      refine fin_ret0 rfl ?_
      rw [recs_none (k := 500 - (rs.length + 1) + 1) (first_none (.inl (by omega)))] at hr
      rw [hr]; simpa using hj
    repeat'
      first
        | refine Q_then ?_ | refine C_cond_t rfl ?_ | refine C_cond_f rfl ?_ | refine C_seq ?_ | refine C_block ?_ | refine C_skip ?_ | refine C_ret ?_ | refine C_exit ?_
        | refine Q_then_ret ?_ | refine Q_then_exit ?_ | refine Q_block ?_ | refine Q_block_ret ?_ | refine Q_block_here ?_ | refine Q_block_on rfl ?_ | refine C_scope ?_ | refine C_label ?_ | refine Q_asn ?_
    obtain ⟨bb, bo, rfl, _, g⟩ := hb.cells (by omega)
    have g0 := g 0 (by omega)
    have g1 := g 1 (by omega)
    obtain ⟨_, hbc, hbm⟩ := hb.len
    have hun : un (b.getD 0 0) (b.getD 1 0) = un (b.getD 0 0) (b.getD 1 0) := rfl
    have c0 := fun W (hW : Ext wk W) => hW.cell g0 (by simp)
    have c1 := fun W (hW : Ext wk W) => hW.cell g1 (by simp)
    have hfo := first_of (b := b) (by omega) rfl
    have hfn := first_none (b := b)
    have hjo := joined_any (b.getD 0 0) (b.getD 1 0)
    have hule := un_le (b.getD 0 0) (b.getD 1 0)
    generalize un (b.getD 0 0) (b.getD 1 0) = n at *
    generalize b.getD 0 0 = x0 at *
    generalize b.getD 1 0 = x1 at *
    refine C_drawN (.read 0 (.read 1 (.read 2 (.read 3 (.read 4 (.read 5 (.alt 6 (.read 7 .done) .stop))))))) mixed (by kernel_rfl) (fun wd kd ed => ⟨Ext wk, ?_, ?_⟩)
    · exact kd
    ((apply D_R rfl rfl; (intro W hW; (first | refine M_slice rfl ?_ | refine W_move ?_); exact W_nil ⟨rfl, rfl, rfl⟩))
     <;> (apply D_R rfl rfl; (intro W hW; (first | refine W_idx1 rfl rfl rfl (by omega) ?_ | refine W_idx rfl rfl rfl (by omega) ?_ | refine W_indexAddr rfl rfl (by omega) (by omega) ?_); exact W_nil ⟨rfl, rfl, rfl⟩))
     <;> (apply D_R rfl rfl; (intro W hW; (first | refine W_load rfl (c0 W hW) ?_ | refine W_load rfl (c1 W hW) ?_ | refine W_load_agg rfl (by rfl) (c0 W hW) ?_ | refine W_load_agg rfl (by rfl) (c1 W hW) ?_); exact W_nil ⟨rfl, rfl, rfl⟩))
     <;> (apply D_R rfl rfl; (intro W hW; (first | refine M_slice rfl ?_ | refine W_move ?_); exact W_nil ⟨rfl, rfl, rfl⟩))
     <;> (apply D_R rfl rfl; (intro W hW; (first | refine W_idx1 rfl rfl rfl (by omega) ?_ | refine W_idx rfl rfl rfl (by omega) ?_ | refine W_indexAddr rfl rfl (by omega) (by omega) ?_); exact W_nil ⟨rfl, rfl, rfl⟩))
     <;> (apply D_R rfl rfl; (intro W hW; (first | refine W_load rfl (c0 W hW) ?_ | refine W_load rfl (c1 W hW) ?_ | refine W_load_agg rfl (by rfl) (c0 W hW) ?_ | refine W_load_agg rfl (by rfl) (c1 W hW) ?_); exact W_nil ⟨rfl, rfl, rfl⟩)))
    -- at place 6, operation 6: <dst=(some 21) op=(call <callee=(value (func 24)) args=[(tmp 17), (tmp 20)] argTypes=[5, 5]>) type=3 guard=none>
    refine D_E rfl ?_
    refine W_call (hjo _) rfl ?_
    rintro u1 w1 ⟨rfl, rfl⟩
    refine W_nil ⟨Ext wk, fun _ h => h, kd, ?_⟩
    ((apply D_R rfl rfl; (intro W hW; (refine M_assign ?_; (first | refine M_int rfl ?_ | refine W_move ?_)); exact W_nil ⟨rfl, rfl, rfl⟩))
     <;> refine D_nil ?_)
    repeat'
      first
        | refine Q_then ?_ | refine C_cond_t rfl ?_ | refine C_cond_f rfl ?_ | refine C_seq ?_ | refine C_block ?_ | refine C_skip ?_ | refine C_ret ?_ | refine C_exit ?_
        | refine Q_then_ret ?_ | refine Q_then_exit ?_ | refine Q_block ?_ | refine Q_block_ret ?_ | refine Q_block_here ?_ | refine Q_block_on rfl ?_ | refine C_scope ?_ | refine C_label ?_ | refine Q_asn ?_
    (refine C_region ?_
     <;> (first | refine M_int rfl ?_ | refine W_move ?_)
     <;> (refine W_lss rfl rfl (fun hc => ?_) (fun hc => ?_) <;> try (exfalso; omega))
     <;> (first | refine M_bool rfl ?_ | refine W_move ?_)
     <;> (first | refine W_no rfl ?_ | (refine W_yes rfl ?_; (first | refine M_int rfl ?_ | refine W_move ?_)))
     <;> (first | refine W_no rfl ?_ | (refine W_yes rfl ?_; (refine W_gtr rfl rfl (fun hc => ?_) (fun hc => ?_) <;> try (exfalso; omega))))
     <;> ((first | refine M_pick_t rfl ?_ | refine M_pick_f rfl ?_); (first | refine M_bool rfl ?_ | refine W_move ?_))
     <;> (first | refine M_bool rfl ?_ | refine W_move ?_)
     <;> (first | refine W_no rfl ?_ | (refine W_yes rfl ?_; (first | refine M_slice rfl ?_ | refine W_move ?_)))
     <;> (first | refine W_no rfl ?_ | (refine W_yes rfl ?_; refine W_len rfl ?_))
     <;> (first | refine W_no rfl ?_ | (refine W_yes rfl ?_; (first | refine M_int rfl ?_ | refine W_move ?_)))
     <;> (first | refine W_no rfl ?_ | (refine W_yes rfl ?_; refine W_add rfl rfl (by first | exact inR_i64 (by omega) (by omega) | exact inR_u8 (by omega) (by omega) | exact inR_u16 (by omega) (by omega)) ?_))
     <;> (first | refine W_no rfl ?_ | (refine W_yes rfl ?_; (refine W_lss rfl rfl (fun hc => ?_) (fun hc => ?_) <;> try (exfalso; omega))))
     <;> ((first | refine M_pick_t rfl ?_ | refine M_pick_f rfl ?_); (first | refine M_bool rfl ?_ | refine W_move ?_))
     <;> refine W_nil ?_)
    all_goals
      repeat'
        first
          | refine Q_then ?_ | refine C_cond_t rfl ?_ | refine C_cond_f rfl ?_ | refine C_seq ?_ | refine C_block ?_ | refine C_skip ?_ | refine C_ret ?_ | refine C_exit ?_
          | refine Q_then_ret ?_ | refine Q_then_exit ?_ | refine Q_block ?_ | refine Q_block_ret ?_ | refine Q_block_here ?_ | refine Q_block_on rfl ?_ | refine C_scope ?_ | refine C_label ?_ | refine Q_asn ?_
    any_goals
      refine fin_ret0 rfl ?_
      rw [recs_none (k := 500 - (rs.length + 1) + 1) (hfn (.inr (by omega)))] at hr
      rw [hr]
      simpa using H.ext _ _ _ _ hj kd
    (refine C_region ?_
     <;> (first | refine M_slice rfl ?_ | refine W_move ?_)
     <;> (first | refine M_int rfl ?_ | refine W_move ?_)
     <;> refine W_add rfl rfl (by first | exact inR_i64 (by omega) (by omega) | exact inR_u8 (by omega) (by omega) | exact inR_u16 (by omega) (by omega)) ?_
     <;> refine W_slice_lh rfl rfl rfl (by omega) (by omega) (by omega) ?_
     <;> (refine M_assign ?_; (first | refine M_slice rfl ?_ | refine W_move ?_))
     <;> refine W_nil ?_)
    have t6 : (6 : Int).toNat = 6 := rfl
    have t6n : ((6 : Int) + (n : Int)).toNat = 6 + n := by omega
    rw [t6, t6n, show 6 + n - 6 = n by omega]
    have hcap : 6 + n ≤ c - o := by omega
    have hp := hb.sub 6 (6 + n) (by omega) (by omega)
    have hq := hb.sub 2 6 (by omega) (by omega)
    have h2 := hb.take 2 (by omega)
    rw [show 6 + n - 6 = n by omega] at hp
    rw [show adv (c - o) 2 1 (some ⟨bb, bo, none⟩) = some ⟨bb, bo + 2, none⟩ by simp only [adv]; rw [if_neg (by omega)]; simp [Addr.add_lit], show 6 - 2 = 4 from rfl] at hq
    have hrl : ((b.drop 6).take n).length = n := by simp; omega
    have hql : ((b.drop 2).take 4).length = 4 := by simp; omega
    replace hfo := hfo (by omega) (by omega) (by omega)
    generalize (b.drop 6).take n = r at *
    generalize (b.drop 2).take 4 = q at *
    generalize b.take 2 = p at *
    generalize adv (c - o) 6 1 (some ⟨bb, bo, none⟩) = pa at *
    repeat'
      first
        | refine Q_then ?_ | refine C_cond_t rfl ?_ | refine C_cond_f rfl ?_ | refine C_seq ?_ | refine C_block ?_ | refine C_skip ?_ | refine C_ret ?_ | refine C_exit ?_
        | refine Q_then_ret ?_ | refine Q_then_exit ?_ | refine Q_block ?_ | refine Q_block_ret ?_ | refine Q_block_here ?_ | refine Q_block_on rfl ?_ | refine C_scope ?_ | refine C_label ?_ | refine Q_asn ?_
    have kd0 := kd
    refine C_drawN (.read 0 (.read 1 (.read 2 (.read 5 (.read 6 (.read 7 (.read 8 (.alt 3 (.alt 4 (.read 9 .done) .stop) .stop)))))))) mixed (by kernel_rfl) (fun wd kd ed => ⟨Ext wk, ?_, ?_⟩)
    · exact kd0.trans kd
    replace kd := kd0.trans kd
    ((apply D_R rfl rfl; (intro W hW; (first | refine M_slice rfl ?_ | refine W_move ?_); exact W_nil ⟨rfl, rfl, rfl⟩))
     <;> (apply D_R rfl rfl; (intro W hW; refine W_slice_h rfl rfl (by omega) (by omega) ?_; exact W_nil ⟨rfl, rfl, rfl⟩))
     <;> (apply D_R rfl rfl; (intro W hW; (first | refine M_slice rfl ?_ | refine W_move ?_); exact W_nil ⟨rfl, rfl, rfl⟩))
     <;> (apply D_R rfl rfl; (intro W hW; (first | refine M_slice rfl ?_ | refine W_move ?_); exact W_nil ⟨rfl, rfl, rfl⟩))
     <;> (apply D_R rfl rfl; (intro W hW; refine W_slice_lh rfl rfl rfl (by omega) (by omega) (by omega) ?_; exact W_nil ⟨rfl, rfl, rfl⟩)))
    -- at place 5, operation 7: <dst=(some 46) op=(sliceToArrayPointer 52 (tmp 45)) type=0 guard=none>
    rw [show adv (c - o) (2 : Int).toNat 1 (some ⟨bb, bo, none⟩) = some ⟨bb, bo + 2, none⟩ by simp only [adv]; rw [if_neg (by omega)]; simp [Addr.add_lit]]
    refine D_R rfl rfl (fun W hW => W_arrAt rfl (by decide) (W_nil ⟨rfl, rfl, rfl⟩)) ?_
    refine D_R rfl rfl (fun W hW => W_load_agg (L := cells8 q) rfl (by rw [cells8_length, hql]) ((hq.ext hW).cellsX (by omega)) (W_nil ⟨rfl, rfl, rfl⟩)) ?_
    refine D_E rfl ?_
    refine W_buildSlice1 rfl (by omega) rfl rfl (fun w3 n3 => ?_)
    refine W_nil ⟨Ext wk, fun _ h => h, kd.trans n3.keep, ?_⟩
    refine D_E rfl ?_
    refine W_call (checksum_any _ [p, r] _ (LB_two n3 (h2.ext (kd.trans n3.keep)) (hp.ext (kd.trans n3.keep)))) rfl ?_
    rintro u4 w4 ⟨rfl, k4⟩
    have k04 := (kd.trans n3.keep).trans k4
    refine W_nil ⟨Ext wk, fun _ h => h, k04, ?_⟩
    refine D_R rfl rfl (fun W hW => W_aneq (l := chk [p, r].flatten) (m := q) depth2 rfl rfl (chk_length _) hql (W_nil ⟨rfl, rfl, rfl⟩)) ?_
    refine D_nil ?_
    rw [show [p, r].flatten = p ++ r by simp]
    repeat'
      first
        | refine Q_then ?_ | refine C_cond_t rfl ?_ | refine C_cond_f rfl ?_ | refine C_seq ?_ | refine C_block ?_ | refine C_skip ?_ | refine C_ret ?_ | refine C_exit ?_
        | refine Q_then_ret ?_ | refine Q_then_exit ?_ | refine Q_block ?_ | refine Q_block_ret ?_ | refine Q_block_here ?_ | refine Q_block_on rfl ?_ | refine C_scope ?_ | refine C_label ?_ | refine Q_asn ?_
    by_cases hck : chk (p ++ r) = q
    · rw [if_pos hck] at hfo
      rw [show (chk (p ++ r) == q) = true from beq_iff_eq.2 hck]
      repeat'
        first
          | refine Q_then ?_ | refine C_cond_t rfl ?_ | refine C_cond_f rfl ?_ | refine C_seq ?_ | refine C_block ?_ | refine C_skip ?_ | refine C_ret ?_ | refine C_exit ?_
          | refine Q_then_ret ?_ | refine Q_then_exit ?_ | refine Q_block ?_ | refine Q_block_ret ?_ | refine Q_block_here ?_ | refine Q_block_on rfl ?_ | refine C_scope ?_ | refine C_label ?_ | refine Q_asn ?_
      (refine C_region ?_
       <;> (first | refine M_int rfl ?_ | refine W_move ?_)
       <;> (first | refine M_int rfl ?_ | refine W_move ?_)
       <;> refine W_add rfl rfl (by first | exact inR_i64 (by omega) (by omega) | exact inR_u8 (by omega) (by omega) | exact inR_u16 (by omega) (by omega)) ?_
       <;> refine W_add rfl rfl (by first | exact inR_i64 (by omega) (by omega) | exact inR_u8 (by omega) (by omega) | exact inR_u16 (by omega) (by omega)) ?_
       <;> (refine M_assign ?_; (first | refine M_int rfl ?_ | refine W_move ?_))
       <;> refine W_nil ?_)
      repeat'
        first
          | refine Q_then ?_ | refine C_cond_t rfl ?_ | refine C_cond_f rfl ?_ | refine C_seq ?_ | refine C_block ?_ | refine C_skip ?_ | refine C_ret ?_ | refine C_exit ?_
          | refine Q_then_ret ?_ | refine Q_then_exit ?_ | refine Q_block ?_ | refine Q_block_ret ?_ | refine Q_block_here ?_ | refine Q_block_on rfl ?_ | refine C_scope ?_ | refine C_label ?_ | refine Q_asn ?_
      (refine C_region ?_
       <;> (first | refine M_func rfl ?_ | refine W_move ?_)
       <;> (first | refine M_int rfl ?_ | refine W_move ?_)
       <;> (first | refine M_slice rfl ?_ | refine W_move ?_))
      -- at operation 3: <dst=(some 56) op=(call <callee=(value (tmp 53)) args=[(tmp 54), (tmp 55)] argTypes=[3, 24]>) type=4 guard=none>
      have hev : ((o + (6 + r.length) : Nat) : Int) = (o : Int) + (6 + (n : Int)) := by omega
      refine W_yield rfl rfl (by have := hstep r _ _ k04 hfo (hp.ext k04); rw [hev] at this; exact this) ?_
      rintro u5 w5 ⟨rfl, hj5⟩
      (refine W_not rfl ?_
       <;> refine W_nil ?_)
      repeat'
        first
          | refine Q_then ?_ | refine C_cond_t rfl ?_ | refine C_cond_f rfl ?_ | refine C_seq ?_ | refine C_block ?_ | refine C_skip ?_ | refine C_ret ?_ | refine C_exit ?_
          | refine Q_then_ret ?_ | refine Q_then_exit ?_ | refine Q_block ?_ | refine Q_block_ret ?_ | refine Q_block_here ?_ | refine Q_block_on rfl ?_ | refine C_scope ?_ | refine C_label ?_ | refine Q_asn ?_
      (refine C_region ?_
       <;> refine W_add rfl rfl (by first | exact inR_i64 (by omega) (by omega) | exact inR_u8 (by omega) (by omega) | exact inR_u16 (by omega) (by omega)) ?_
       <;> (first | refine M_int rfl ?_ | refine W_move ?_)
       <;> refine W_nil ?_)
      repeat'
        first
          | refine Q_then ?_ | refine C_cond_t rfl ?_ | refine C_cond_f rfl ?_ | refine C_seq ?_ | refine C_block ?_ | refine C_skip ?_ | refine C_ret ?_ | refine C_exit ?_
          | refine Q_then_ret ?_ | refine Q_then_exit ?_ | refine Q_block ?_ | refine Q_block_ret ?_ | refine Q_block_here ?_ | refine Q_block_on rfl ?_ | refine C_scope ?_ | refine C_label ?_ | refine Q_asn ?_
      rw [recs_some hfo] at hr
      have hfl := first_length hfo
      refine ⟨(rs ++ [r], o + (6 + r.length)), ⟨rfl, ⟨rfl, rfl, ?_, ?_, trivial⟩, by simp; omega, ?_, ?_, hj5⟩, by simp; omega⟩
      · exact congrArg (Value.int .i64) hev.symm
      · exact congrArg (Value.int .i64) (by simp)
      · show o + (6 + r.length) ≤ l.length
        omega
      · simp only [List.length_append, List.length_cons, List.length_nil, List.append_assoc, List.singleton_append] at hr ⊢
        rw [hr, ← hbdef, List.drop_drop]
        simp only [Nat.add_assoc]
    · rw [if_neg hck] at hfo
      rw [show (chk (p ++ r) == q) = false from beq_eq_false_iff_ne.2 hck]
      repeat'
        first
          | refine Q_then ?_ | refine C_cond_t rfl ?_ | refine C_cond_f rfl ?_ | refine C_seq ?_ | refine C_block ?_ | refine C_skip ?_ | refine C_ret ?_ | refine C_exit ?_
          | refine Q_then_ret ?_ | refine Q_then_exit ?_ | refine Q_block ?_ | refine Q_block_ret ?_ | refine Q_block_here ?_ | refine Q_block_on rfl ?_ | refine C_scope ?_ | refine C_label ?_ | refine Q_asn ?_
      refine fin_ret0 rfl ?_
      rw [recs_none (k := 500 - (rs.length + 1) + 1) hfo] at hr
      rw [hr]
      simpa using H.ext _ _ _ _ hj k04
  · have e : rs.length = 500 := by omega
    have e0 : recs 0 (l.drop o) = ([], 0) := rfl
    rw [e, Nat.sub_self, e0, List.append_nil, Nat.add_zero] at hr
    repeat'
      first
        | refine Q_then ?_ | refine C_cond_t rfl ?_ | refine C_cond_f rfl ?_ | refine C_seq ?_ | refine C_block ?_ | refine C_skip ?_ | refine C_ret ?_ | refine C_exit ?_
        | refine Q_then_ret ?_ | refine Q_then_exit ?_ | refine Q_block ?_ | refine Q_block_ret ?_ | refine Q_block_here ?_ | refine Q_block_on rfl ?_ | refine C_scope ?_ | refine C_label ?_ | refine Q_asn ?_
    refine fin_end0 rfl ?_
    rw [hr]
    exact hj

/-- the iterator is a function value that holds a place of data -/
theorem frames_any (v : Value) (w : World) (hv : v.cells = #[v]) :
    Fn Try.prog 25 [v] w fun u w' => u = .func (.func 31) #[] #[.pointer (some ⟨w.heap.size, 0, none⟩)] ∧ New w w' 24 [v] := by
  refine fn_of_wc Try.func25 rfl Try.ntmps25 (Nat.le_of_ble_eq_true rfl) (by kernel_rfl) ?_
  repeat'
    first
      | refine Q_then ?_ | refine C_cond_t rfl ?_ | refine C_cond_f rfl ?_ | refine C_seq ?_ | refine C_block ?_ | refine C_skip ?_ | refine C_ret ?_ | refine C_exit ?_
      | refine Q_then_ret ?_ | refine Q_then_exit ?_ | refine Q_block ?_ | refine Q_block_ret ?_ | refine Q_block_here ?_ | refine Q_block_on rfl ?_ | refine C_scope ?_ | refine C_label ?_ | refine Q_asn ?_
  refine C_region ?_
  refine W_box (L := [v]) hv (fun w1 n1 => ?_)
  ((refine M_assign ?_; (first | refine M_func rfl ?_ | refine W_move ?_))
   <;> refine W_nil ?_)
  repeat'
    first
      | refine Q_then ?_ | refine C_cond_t rfl ?_ | refine C_cond_f rfl ?_ | refine C_seq ?_ | refine C_block ?_ | refine C_skip ?_ | refine C_ret ?_ | refine C_exit ?_
      | refine Q_then_ret ?_ | refine Q_then_exit ?_ | refine Q_block ?_ | refine Q_block_ret ?_ | refine Q_block_here ?_ | refine Q_block_on rfl ?_ | refine C_scope ?_ | refine C_label ?_ | refine Q_asn ?_
  (refine C_region ?_
   <;> refine W_makeFunc rfl rfl ?_
   <;> (refine M_assign ?_; (first | refine M_func rfl ?_ | refine W_move ?_))
   <;> refine W_nil ?_)
  repeat'
    first
      | refine Q_then ?_ | refine C_cond_t rfl ?_ | refine C_cond_f rfl ?_ | refine C_seq ?_ | refine C_block ?_ | refine C_skip ?_ | refine C_ret ?_ | refine C_exit ?_
      | refine Q_then_ret ?_ | refine Q_then_exit ?_ | refine Q_block ?_ | refine Q_block_ret ?_ | refine Q_block_here ?_ | refine Q_block_on rfl ?_ | refine C_scope ?_ | refine C_label ?_ | refine Q_asn ?_
  exact fin_ret1 rfl ⟨rfl, n1⟩
end Go.Proofs.Ytfbahfibgmdlnaa
