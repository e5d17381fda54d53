/- The record of a frame; records, walked. Conditions: none. -/
import Derived.Test.YtfbahfibgmdlnaaJ4
namespace Go.Proofs.Ytfbahfibgmdlnaa
open Go.RowKit
set_option linter.unusedVariables false

theorem BytesAt.sub {ok : Nat → Prop} {w : World} {a : Option Addr} {c n : Nat} {l : List UInt8} (h : BytesAt ok w (.slice a n c) l) (i j : Nat) (hij : i ≤ j) (hj : j ≤ l.length) :
    BytesAt ok w (.slice (adv c i 1 a) (j - i) (c - i)) ((l.drop i).take (j - i)) := by
  obtain ⟨a', c', he, h1, h2, h3, h4⟩ := h
  cases he
  have hlen : ((l.drop i).take (j - i)).length = j - i := by simp; omega
  unfold BytesAt
  rw [hlen]
  refine ⟨_, _, rfl, by omega, by omega, ?_, ?_⟩
  · unfold adv
    split
    · omega
    · intro hn
      have : a = none := by cases a <;> simp_all
      have := h3 this
      omega
  · by_cases h0 : j - i = 0
    · exact .inl h0
    · refine .inr ?_
      obtain ⟨b, off, rfl, hb, hc⟩ := h4.resolve_left (by omega)
      have hci : ¬ c = i := by omega
      refine ⟨b, off + i, by simp [adv, hci, Addr.add_lit], hb, ?_⟩
      have := hc.part i (j - i)
      simpa [cells8, List.map_drop, List.map_take] using this
theorem BytesAt.drop {ok : Nat → Prop} {w : World} {a : Option Addr} {c n : Nat} {l : List UInt8} (h : BytesAt ok w (.slice a n c) l) (i : Nat) (hi : i ≤ l.length) :
    BytesAt ok w (.slice (adv c i 1 a) (l.length - i) (c - i)) (l.drop i) := by
  have := h.sub i l.length hi (Nat.le_refl _)
  rwa [List.take_of_length_le (by simp)] at this
theorem BytesAt.take {ok : Nat → Prop} {w : World} {a : Option Addr} {c n : Nat} {l : List UInt8} (h : BytesAt ok w (.slice a n c) l) (j : Nat) (hj : j ≤ l.length) :
    BytesAt ok w (.slice a j c) (l.take j) := by
  have := h.sub 0 j (by omega) hj
  have e : adv c 0 1 a = a := by
    unfold adv
    split
    · rfl
    · cases a with
      | none => rfl
      | some a => obtain ⟨b, o, p⟩ := a; simp [Addr.add]
  rw [e] at this
  simpa using this
theorem BytesAt.ext {ok : Nat → Prop} {w w' : World} {v : Value} {l : List UInt8} (h : BytesAt ok w v l) (k : Ext w w') : BytesAt ok w' v l := Sl.ext h k
theorem BytesAt.len {ok : Nat → Prop} {w : World} {a : Option Addr} {c n : Nat} {l : List UInt8} (h : BytesAt ok w (.slice a n c) l) : n = l.length ∧ n ≤ c ∧ c ≤ 9223372036854775807 := by
  obtain ⟨a', c', he, h1, h2, h3, h4⟩ := h
  cases he
  exact ⟨rfl, h1, h2⟩
theorem BytesAt.cells {ok : Nat → Prop} {w : World} {a : Option Addr} {c n : Nat} {l : List UInt8} (h : BytesAt ok w (.slice a n c) l) (h0 : 0 < l.length) : ∃ b o, a = some ⟨b, o, none⟩ ∧ ok b ∧ ∀ i, i < l.length → w.cell? ⟨b, o + i, none⟩ = some (enc8 (l.getD i 0)) := by
  obtain ⟨a', c', he, h1, h2, h3, h4⟩ := h
  cases he
  obtain ⟨b, o, e, hb, hc⟩ := h4.resolve_left (by omega)
  exact ⟨b, o, e, hb, fun i hi => hc i _ (cells8_get hi)⟩

theorem first_any (v : Value) (l : List UInt8) (w : World) (h : BytesAt anyB w v l) :
    Fn Try.prog 29 [v] w fun v w' => ∃ pv, v = .tuple #[pv, .bool (first l).isSome] ∧ Ext w w' ∧ ∀ r, first l = some r → BytesAt anyB w pv r := by
  have h0 := h
  obtain ⟨a, c, rfl, hl, hc, hm, hx⟩ := h0
  refine fn_of_wc Try.func29 rfl Try.ntmps29 (Nat.le_of_ble_eq_true rfl) (by kernel_rfl) ?_
  repeat'
    first
      | refine Q_then ?_ | refine C_cond_t rfl ?_ | refine C_cond_f rfl ?_ | refine C_seq ?_ | refine C_block ?_ | refine C_skip ?_ | refine C_ret ?_ | refine C_exit ?_
      | refine Q_then_ret ?_ | refine Q_then_exit ?_ | refine Q_block ?_ | refine Q_block_ret ?_ | refine Q_block_here ?_ | refine Q_block_on rfl ?_ | refine C_scope ?_ | refine C_label ?_ | refine Q_asn ?_
  (refine C_region ?_
   <;> (refine M_assign ?_; (first | refine M_slice rfl ?_ | refine W_move ?_))
   <;> (refine M_assign ?_; (first | refine M_bool rfl ?_ | refine W_move ?_))
   <;> refine W_nil ?_)
  repeat'
    first
      | refine Q_then ?_ | refine C_cond_t rfl ?_ | refine C_cond_f rfl ?_ | refine C_seq ?_ | refine C_block ?_ | refine C_skip ?_ | refine C_ret ?_ | refine C_exit ?_
      | refine Q_then_ret ?_ | refine Q_then_exit ?_ | refine Q_block ?_ | refine Q_block_ret ?_ | refine Q_block_here ?_ | refine Q_block_on rfl ?_ | refine C_scope ?_ | refine C_label ?_ | refine Q_asn ?_
  (refine C_region ?_
   <;> (first | refine M_slice rfl ?_ | refine W_move ?_)
   <;> refine W_len rfl ?_
   <;> (refine W_lss rfl rfl (fun hc => ?_) (fun hc => ?_) <;> try (exfalso; omega))
   <;> refine W_nil ?_)
  · repeat'
      first
        | refine Q_then ?_ | refine C_cond_t rfl ?_ | refine C_cond_f rfl ?_ | refine C_seq ?_ | refine C_block ?_ | refine C_skip ?_ | refine C_ret ?_ | refine C_exit ?_
        | refine Q_then_ret ?_ | refine Q_then_exit ?_ | refine Q_block ?_ | refine Q_block_ret ?_ | refine Q_block_here ?_ | refine Q_block_on rfl ?_ | refine C_scope ?_ | refine C_label ?_ | refine Q_asn ?_
    (refine C_region ?_
     <;> (refine M_assign ?_; (first | refine M_slice rfl ?_ | refine W_move ?_))
     <;> (refine M_assign ?_; (first | refine M_bool rfl ?_ | refine W_move ?_))
     <;> refine W_nil ?_)
    repeat'
      first
        | refine Q_then ?_ | refine C_cond_t rfl ?_ | refine C_cond_f rfl ?_ | refine C_seq ?_ | refine C_block ?_ | refine C_skip ?_ | refine C_ret ?_ | refine C_exit ?_
        | refine Q_then_ret ?_ | refine Q_then_exit ?_ | refine Q_block ?_ | refine Q_block_ret ?_ | refine Q_block_here ?_ | refine Q_block_on rfl ?_ | refine C_scope ?_ | refine C_label ?_ | refine Q_asn ?_
    have e : first l = none := by unfold first; rw [if_pos (by omega)]
    refine fin_ret2 rfl ⟨_, by rw [e]; rfl, Ext.refl _, by rw [e]; simp⟩
  have hlt : ¬ l.length < 6 := by omega
  repeat'
    first
      | refine Q_then ?_ | refine C_cond_t rfl ?_ | refine C_cond_f rfl ?_ | refine C_seq ?_ | refine C_block ?_ | refine C_skip ?_ | refine C_ret ?_ | refine C_exit ?_
      | refine Q_then_ret ?_ | refine Q_then_exit ?_ | refine Q_block ?_ | refine Q_block_ret ?_ | refine Q_block_here ?_ | refine Q_block_on rfl ?_ | refine C_scope ?_ | refine C_label ?_ | refine Q_asn ?_
  obtain ⟨b, o, rfl, _, g⟩ := h.cells (by omega)
  have hun : ((un (l.getD 0 0) (l.getD 1 0) : Nat) : Int) = ((l.getD 0 0).toNat : Int) * 256 + ((l.getD 1 0).toNat : Int) := by simp [un]
  have hfu : first l = if un (l.getD 0 0) (l.getD 1 0) < 1 ∨ 4000 < un (l.getD 0 0) (l.getD 1 0) ∨ l.length < 6 + un (l.getD 0 0) (l.getD 1 0) then none else
    if frm ((l.drop 6).take (un (l.getD 0 0) (l.getD 1 0))) = l.take (6 + un (l.getD 0 0) (l.getD 1 0)) then some ((l.drop 6).take (un (l.getD 0 0) (l.getD 1 0))) else none := by
    rw [first, if_neg hlt]
  have g0 := g 0 (by omega)
  have g1 := g 1 (by omega)
  have l0 := (l.getD 0 0).toNat_lt
  have l1 := (l.getD 1 0).toNat_lt
  generalize hn : un (l.getD 0 0) (l.getD 1 0) = n at *
  generalize l.getD 0 0 = x0 at *
  generalize l.getD 1 0 = x1 at *
  unfold enc8 at g0 g1
  refine C_drawN (.read 0 (.read 1 (.read 2 (.read 3 (.read 4 (.read 5 (.read 6 (.read 7 (.read 8 (.read 9 (.read 10 .done))))))))))) mixed (by kernel_rfl) (fun wd kd ed => ⟨fun W => W = wd, ?_, ?_⟩)
  · rfl
  have e0 := kd.cell g0 (by simp)
  have e1 := kd.cell g1 (by simp)
  ((apply D_R rfl rfl; (intro W hW; subst hW; (first | refine M_slice rfl ?_ | refine W_move ?_); exact W_nil ⟨rfl, rfl, rfl⟩))
   <;> (apply D_R rfl rfl; (intro W hW; subst hW; (first | refine W_idx1 rfl rfl rfl (by omega) ?_ | refine W_idx rfl rfl rfl (by omega) ?_ | refine W_indexAddr rfl rfl (by omega) (by omega) ?_); exact W_nil ⟨rfl, rfl, rfl⟩))
   <;> (apply D_R rfl rfl; (intro W hW; subst hW; (first | refine W_load rfl (Blk.cell (by assumption) (by rfl)) ?_ | refine W_load rfl (by assumption) ?_); exact W_nil ⟨rfl, rfl, rfl⟩))
   <;> (apply D_R rfl rfl; (intro W hW; subst hW; refine W_conv rfl (by first | exact inR_i64 (by omega) (by omega) | exact inR_u8 (by omega) (by omega) | exact inR_u16 (by omega) (by omega)) ?_; exact W_nil ⟨rfl, rfl, rfl⟩))
   <;> (apply D_R rfl rfl; (intro W hW; subst hW; refine W_mul rfl rfl (by first | exact inR_i64 (by omega) (by omega) | exact inR_u8 (by omega) (by omega) | exact inR_u16 (by omega) (by omega)) ?_; exact W_nil ⟨rfl, rfl, rfl⟩))
   <;> (apply D_R rfl rfl; (intro W hW; subst hW; (first | refine M_slice rfl ?_ | refine W_move ?_); exact W_nil ⟨rfl, rfl, rfl⟩))
   <;> (apply D_R rfl rfl; (intro W hW; subst hW; (first | refine W_idx1 rfl rfl rfl (by omega) ?_ | refine W_idx rfl rfl rfl (by omega) ?_ | refine W_indexAddr rfl rfl (by omega) (by omega) ?_); exact W_nil ⟨rfl, rfl, rfl⟩))
   <;> (apply D_R rfl rfl; (intro W hW; subst hW; (first | refine W_load rfl (Blk.cell (by assumption) (by rfl)) ?_ | refine W_load rfl (by assumption) ?_); exact W_nil ⟨rfl, rfl, rfl⟩))
   <;> (apply D_R rfl rfl; (intro W hW; subst hW; refine W_conv rfl (by first | exact inR_i64 (by omega) (by omega) | exact inR_u8 (by omega) (by omega) | exact inR_u16 (by omega) (by omega)) ?_; exact W_nil ⟨rfl, rfl, rfl⟩))
   <;> (apply D_R rfl rfl; (intro W hW; subst hW; refine W_add rfl rfl (by first | exact inR_i64 (by omega) (by omega) | exact inR_u8 (by omega) (by omega) | exact inR_u16 (by omega) (by omega)) ?_; exact W_nil ⟨rfl, rfl, rfl⟩))
   <;> (apply D_R rfl rfl; (intro W hW; subst hW; (refine M_assign ?_; (first | refine M_int rfl ?_ | refine W_move ?_)); exact W_nil ⟨rfl, rfl, rfl⟩))
   <;> refine D_nil ?_)
  rw [← hun]
  have no : ∀ w1, Ext w w1 → n < 1 ∨ 4000 < n ∨ l.length < 6 + n → (first l = none) := fun _ _ hc => by rw [hfu, if_pos hc]
  repeat'
    first
      | refine Q_then ?_ | refine C_cond_t rfl ?_ | refine C_cond_f rfl ?_ | refine C_seq ?_ | refine C_block ?_ | refine C_skip ?_ | refine C_ret ?_ | refine C_exit ?_
      | refine Q_then_ret ?_ | refine Q_then_exit ?_ | refine Q_block ?_ | refine Q_block_ret ?_ | refine Q_block_here ?_ | refine Q_block_on rfl ?_ | refine C_scope ?_ | refine C_label ?_ | refine Q_asn ?_
  (refine C_region ?_
   <;> (first | refine M_int rfl ?_ | refine W_move ?_)
   <;> (refine W_lss rfl rfl (fun hc => ?_) (fun hc => ?_) <;> try (exfalso; omega))
   <;> (first | refine M_bool rfl ?_ | refine W_move ?_)
   <;> (first | refine W_no rfl ?_ | (refine W_yes rfl ?_; (first | refine M_int rfl ?_ | refine W_move ?_)))
   <;> (first | refine W_no rfl ?_ | (refine W_yes rfl ?_; (refine W_gtr rfl rfl (fun hc => ?_) (fun hc => ?_) <;> try (exfalso; omega))))
   <;> ((first | refine M_pick_t rfl ?_ | refine M_pick_f rfl ?_); (first | refine M_bool rfl ?_ | refine W_move ?_))
   <;> (first | refine M_bool rfl ?_ | refine W_move ?_)
   <;> (first | refine W_no rfl ?_ | (refine W_yes rfl ?_; (first | refine M_slice rfl ?_ | refine W_move ?_)))
   <;> (first | refine W_no rfl ?_ | (refine W_yes rfl ?_; refine W_len rfl ?_))
   <;> (first | refine W_no rfl ?_ | (refine W_yes rfl ?_; (first | refine M_int rfl ?_ | refine W_move ?_)))
   <;> (first | refine W_no rfl ?_ | (refine W_yes rfl ?_; refine W_add rfl rfl (by first | exact inR_i64 (by omega) (by omega) | exact inR_u8 (by omega) (by omega) | exact inR_u16 (by omega) (by omega)) ?_))
   <;> (first | refine W_no rfl ?_ | (refine W_yes rfl ?_; (refine W_lss rfl rfl (fun hc => ?_) (fun hc => ?_) <;> try (exfalso; omega))))
   <;> ((first | refine M_pick_t rfl ?_ | refine M_pick_f rfl ?_); (first | refine M_bool rfl ?_ | refine W_move ?_))
   <;> refine W_nil ?_)
  all_goals
    repeat'
      first
        | refine Q_then ?_ | refine C_cond_t rfl ?_ | refine C_cond_f rfl ?_ | refine C_seq ?_ | refine C_block ?_ | refine C_skip ?_ | refine C_ret ?_ | refine C_exit ?_
        | refine Q_then_ret ?_ | refine Q_then_exit ?_ | refine Q_block ?_ | refine Q_block_ret ?_ | refine Q_block_here ?_ | refine Q_block_on rfl ?_ | refine C_scope ?_ | refine C_label ?_ | refine Q_asn ?_
  · (refine C_region ?_
     <;> (refine M_assign ?_; (first | refine M_slice rfl ?_ | refine W_move ?_))
     <;> (refine M_assign ?_; (first | refine M_bool rfl ?_ | refine W_move ?_))
     <;> refine W_nil ?_)
    repeat'
      first
        | refine Q_then ?_ | refine C_cond_t rfl ?_ | refine C_cond_f rfl ?_ | refine C_seq ?_ | refine C_block ?_ | refine C_skip ?_ | refine C_ret ?_ | refine C_exit ?_
        | refine Q_then_ret ?_ | refine Q_then_exit ?_ | refine Q_block ?_ | refine Q_block_ret ?_ | refine Q_block_here ?_ | refine Q_block_on rfl ?_ | refine C_scope ?_ | refine C_label ?_ | refine Q_asn ?_
    have e : first l = none := by rw [hfu, if_pos (by omega)]
    exact fin_ret2 rfl ⟨_, by rw [e]; rfl, kd, by rw [e]; simp⟩
  · (refine C_region ?_
     <;> (refine M_assign ?_; (first | refine M_slice rfl ?_ | refine W_move ?_))
     <;> (refine M_assign ?_; (first | refine M_bool rfl ?_ | refine W_move ?_))
     <;> refine W_nil ?_)
    repeat'
      first
        | refine Q_then ?_ | refine C_cond_t rfl ?_ | refine C_cond_f rfl ?_ | refine C_seq ?_ | refine C_block ?_ | refine C_skip ?_ | refine C_ret ?_ | refine C_exit ?_
        | refine Q_then_ret ?_ | refine Q_then_exit ?_ | refine Q_block ?_ | refine Q_block_ret ?_ | refine Q_block_here ?_ | refine Q_block_on rfl ?_ | refine C_scope ?_ | refine C_label ?_ | refine Q_asn ?_
    have e : first l = none := by rw [hfu, if_pos (by omega)]
    exact fin_ret2 rfl ⟨_, by rw [e]; rfl, kd, by rw [e]; simp⟩
  · (refine C_region ?_
     <;> (refine M_assign ?_; (first | refine M_slice rfl ?_ | refine W_move ?_))
     <;> (refine M_assign ?_; (first | refine M_bool rfl ?_ | refine W_move ?_))
     <;> refine W_nil ?_)
    repeat'
      first
        | refine Q_then ?_ | refine C_cond_t rfl ?_ | refine C_cond_f rfl ?_ | refine C_seq ?_ | refine C_block ?_ | refine C_skip ?_ | refine C_ret ?_ | refine C_exit ?_
        | refine Q_then_ret ?_ | refine Q_then_exit ?_ | refine Q_block ?_ | refine Q_block_ret ?_ | refine Q_block_here ?_ | refine Q_block_on rfl ?_ | refine C_scope ?_ | refine C_label ?_ | refine Q_asn ?_
    have e : first l = none := by rw [hfu, if_pos (by omega)]
    exact fin_ret2 rfl ⟨_, by rw [e]; rfl, kd, by rw [e]; simp⟩
  rw [if_neg (by omega)] at hfu
  (refine C_region ?_
   <;> (first | refine M_slice rfl ?_ | refine W_move ?_)
   <;> (first | refine M_int rfl ?_ | refine W_move ?_)
   <;> refine W_add rfl rfl (by first | exact inR_i64 (by omega) (by omega) | exact inR_u8 (by omega) (by omega) | exact inR_u16 (by omega) (by omega)) ?_
   <;> refine W_slice_lh rfl rfl rfl (by omega) (by omega) (by omega) ?_
   <;> (refine M_assign ?_; (first | refine M_slice rfl ?_ | refine W_move ?_))
   <;> refine W_nil ?_)
  repeat'
    first
      | refine Q_then ?_ | refine C_cond_t rfl ?_ | refine C_cond_f rfl ?_ | refine C_seq ?_ | refine C_block ?_ | refine C_skip ?_ | refine C_ret ?_ | refine C_exit ?_
      | refine Q_then_ret ?_ | refine Q_then_exit ?_ | refine Q_block ?_ | refine Q_block_ret ?_ | refine Q_block_here ?_ | refine Q_block_on rfl ?_ | refine C_scope ?_ | refine C_label ?_ | refine Q_asn ?_
  have t1 : (6 : Int).toNat = 6 := rfl
  have t2 : ((6 : Int) + (n : Int)).toNat = 6 + n := by omega
  rw [t1, t2]
  have hp := (h.sub 6 (6 + n) (by omega) (by omega))
  have hq := (h.take (6 + n) (by omega))
  rw [show 6 + n - 6 = n by omega] at hp ⊢
  generalize hr : (l.drop 6).take n = r at *
  generalize hs : l.take (6 + n) = s at *
  have hrl : r.length = n := by rw [← hr]; simp; omega
  have kd1 := kd
  refine C_drawN (.read 0 (.read 1 (.read 3 (.read 4 (.read 5 (.read 6 (.alt 2 (.alt 7 (.read 8 (.read 9 .done)) .stop) .stop))))))) mixed (by kernel_rfl) (fun wd kd ed => ⟨Ext w, ?_, ?_⟩)
  · exact kd1.trans kd
  replace kd := kd1.trans kd
  clear e0 e1 kd1
  ((apply D_R rfl rfl; (intro W hW; (first | refine M_slice rfl ?_ | refine W_move ?_); exact W_nil ⟨rfl, rfl, rfl⟩))
   <;> (apply D_R rfl rfl; (intro W hW; (first | refine M_slice rfl ?_ | refine W_move ?_); exact W_nil ⟨rfl, rfl, rfl⟩))
   <;> (apply D_R rfl rfl; (intro W hW; (first | refine M_slice rfl ?_ | refine W_move ?_); exact W_nil ⟨rfl, rfl, rfl⟩))
   <;> (apply D_R rfl rfl; (intro W hW; (first | refine M_int rfl ?_ | refine W_move ?_); exact W_nil ⟨rfl, rfl, rfl⟩))
   <;> (apply D_R rfl rfl; (intro W hW; refine W_add rfl rfl (by first | exact inR_i64 (by omega) (by omega) | exact inR_u8 (by omega) (by omega) | exact inR_u16 (by omega) (by omega)) ?_; exact W_nil ⟨rfl, rfl, rfl⟩))
   <;> (apply D_R rfl rfl; (intro W hW; refine W_slice_h rfl rfl (by omega) (by omega) ?_; exact W_nil ⟨rfl, rfl, rfl⟩)))
  -- at place 6, operation 2: <dst=(some 38) op=(call <callee=(value (func 28)) args=[(tmp 37)] argTypes=[24]>) type=24 guard=none>
  refine D_E rfl ?_
  refine W_call (frame_any _ r _ (hp.ext kd) (by omega)) rfl ?_
  rintro u1 w1 ⟨o1, k1⟩
  refine W_nil ⟨Ext w1, fun _ h => (kd.trans k1).trans h, Ext.refl _, ?_⟩
  skip
  -- at place 7, operation 7: <dst=(some 43) op=(call <callee=(value (func 17)) args=[(tmp 38), (tmp 42)] argTypes=[24, 24]>) type=4 guard=none>
  refine D_E rfl ?_
  refine W_call (Bytes_any _ _ (frm r) s _ (own_bytes o1 (by rw [frm_length])) (hq.ext (kd.trans k1))) rfl ?_
  rintro u2 w2 ⟨rfl, k2⟩
  refine W_nil ⟨Ext w2, fun _ h => k2.trans h, Ext.refl _, ?_⟩
  ((apply D_R rfl rfl; (intro W hW; (refine M_assign ?_; (first | refine M_slice rfl ?_ | refine W_move ?_)); exact W_nil ⟨rfl, rfl, rfl⟩))
   <;> (apply D_R rfl rfl; (intro W hW; (refine M_assign ?_; (first | refine M_bool rfl ?_ | refine W_move ?_)); exact W_nil ⟨rfl, rfl, rfl⟩))
   <;> refine D_nil ?_)
  repeat'
    first
      | refine Q_then ?_ | refine C_cond_t rfl ?_ | refine C_cond_f rfl ?_ | refine C_seq ?_ | refine C_block ?_ | refine C_skip ?_ | refine C_ret ?_ | refine C_exit ?_
      | refine Q_then_ret ?_ | refine Q_then_exit ?_ | refine Q_block ?_ | refine Q_block_ret ?_ | refine Q_block_here ?_ | refine Q_block_on rfl ?_ | refine C_scope ?_ | refine C_label ?_ | refine Q_asn ?_
  have hb : (first l).isSome = (frm r == s) := by
    rw [hfu]
    by_cases he : frm r = s
    · rw [if_pos he, beq_iff_eq.2 he]; rfl
    · rw [if_neg he, beq_eq_false_iff_ne.2 he]; rfl
  refine fin_ret2 rfl ⟨_, by rw [hb]; rfl, (kd.trans k1).trans k2, ?_⟩
  · intro r' hr'
    rw [hfu] at hr'
    split at hr'
    · cases hr'; exact hp
    · cases hr'

/-- v is a slice of the call's own that reads as records -/
def Rs (w : World) (B : Nat) (v : Value) (rs : List (List UInt8)) : Prop :=
  ∃ vs, w.ownsRow B 24 1 v rs.length vs ∧ ∀ (i : Nat) (u : Value) (r : List UInt8), vs[i]? = some u → rs[i]? = some r → BytesAt (fun b => b < w.heap.size ∧ v.ownBlock ≠ some b ∧ B ≤ b) w u r
theorem Rs.ext {w w' : World} {B : Nat} {v : Value} {rs : List (List UInt8)} (h : Rs w B v rs) (k : Ext w w') : Rs w' B v rs := by
  obtain ⟨vs, h1, h2⟩ := h
  exact ⟨vs, ownsRow_ext h1 k, fun i u r hu hr => (BytesAt.ext (h2 i u r hu hr) k).mono fun b hb => ⟨Nat.lt_of_lt_of_le hb.1 k.size, hb.2⟩⟩
theorem Rs.LB {w : World} {B : Nat} {v : Value} {rs : List (List UInt8)} (h : Rs w B v rs) : LB anyB w v rs := by
  obtain ⟨vs, h1, h2⟩ := h
  exact ⟨vs, Sl_of_own h1 fun _ _ => trivial, by simpa using h1.1, fun i u r hu hr => (h2 i u r hu hr).mono fun _ _ => trivial⟩
theorem own_form {w : World} {B e size n : Nat} {v : Value} {xs : List Value} (h : w.ownsRow B e size v n xs) : ∃ a c, v = .slice a n c := by
  obtain ⟨_, h1⟩ := h
  rcases h1 with ⟨rfl, h0⟩ | ⟨g, cap, cur, rfl, _⟩
  · rw [h0]; exact ⟨_, _, rfl⟩
  · exact ⟨_, _, rfl⟩
theorem Rs.form {w : World} {B : Nat} {v : Value} {rs : List (List UInt8)} (h : Rs w B v rs) : ∃ a c, v = .slice a rs.length c := by
  obtain ⟨vs, ⟨_, h1⟩, _⟩ := h
  rcases h1 with ⟨rfl, h0⟩ | ⟨g, cap, cur, rfl, _⟩
  · rw [h0]; exact ⟨_, _, rfl⟩
  · exact ⟨_, _, rfl⟩
theorem Rs.nil (w : World) (B : Nat) : Rs w B (.slice none 0 0) [] := ⟨[], ⟨rfl, .inl ⟨rfl, rfl⟩⟩, fun i u r hu => by simp at hu⟩
theorem BytesAt.keepX {ok : Nat → Prop} {X : List Nat} {w w' : World} {v : Value} {l : List UInt8} (h : BytesAt ok w v l) (k : Keep X w w') (hX : ∀ b, ok b → b ∉ X) : BytesAt ok w' v l := Sl.keep h k hX
theorem Rs.keepX {X : List Nat} {w w' : World} {B : Nat} {v : Value} {rs : List (List UInt8)} (h : Rs w B v rs) (k : Keep X w w') (hX : ∀ x ∈ X, x < B) : Rs w' B v rs := by
  obtain ⟨vs, h1, h2⟩ := h
  refine ⟨vs, ownsRow_keep h1 k (fun g hg hm => by have := (h1.lt g hg).1; have := hX g hm; omega), fun i u r hu hr => ((h2 i u r hu hr).keepX k (fun b hb hm => by have := hX b hm; have := hb.2.2; omega)).mono fun b hb => ⟨Nat.lt_of_lt_of_le hb.1 k.size, hb.2⟩⟩
theorem Rs.lower {w : World} {B B' : Nat} {v : Value} {rs : List (List UInt8)} (h : Rs w B v rs) (hB : B' ≤ B) : Rs w B' v rs := by
  obtain ⟨vs, h1, h2⟩ := h
  exact ⟨vs, ownsRow_mono h1 hB, fun i u r hu hr => (h2 i u r hu hr).mono fun b hb => ⟨hb.1, hb.2.1, Nat.le_trans hB hb.2.2⟩⟩
/-- one more record -/
theorem Rs.push {w w' : World} {B : Nat} {v v' u : Value} {rs : List (List UInt8)} {r : List UInt8} {vs : List Value} (h1 : w.ownsRow B 24 1 v rs.length vs)
    (h2 : ∀ (i : Nat) (u : Value) (r : List UInt8), vs[i]? = some u → rs[i]? = some r → BytesAt (fun b => b < w.heap.size ∧ v.ownBlock ≠ some b ∧ B ≤ b) w u r)
    (hu : BytesAt (fun b => b < w.heap.size ∧ v.ownBlock ≠ some b ∧ B ≤ b) w u r) (a : Apd w w' B 24 1 v v' (rs.length + 1) (vs ++ [u])) : Rs w' B v' (rs ++ [r]) := by
  have key : ∀ (u : Value) (r : List UInt8), BytesAt (fun b => b < w.heap.size ∧ v.ownBlock ≠ some b ∧ B ≤ b) w u r → BytesAt (fun b => b < w'.heap.size ∧ v'.ownBlock ≠ some b ∧ B ≤ b) w' u r := by
    intro u r h
    refine (h.keepX a.keep fun b hb hm => hb.2.1 (by simpa using hm)).mono fun b hb => ⟨Nat.lt_of_lt_of_le hb.1 a.keep.size, ?_, hb.2.2⟩
    rcases a.blk with e | e
    · rw [e]; exact hb.2.1
    · rw [e]; simp; omega
  have hlen : vs.length = rs.length := by simpa using h1.1
  refine ⟨vs ++ [u], by simpa using a.own, fun i u' r' hu' hr' => ?_⟩
  by_cases hi : i < rs.length
  · rw [List.getElem?_append_left (by omega)] at hu' hr'
    exact key _ _ (h2 i u' r' hu' hr')
  · have hi2 : i = rs.length := by
      have := (List.getElem?_eq_some_iff.1 hr').1
      simp at this; omega
    subst hi2
    rw [List.getElem?_append_right (by omega)] at hu' hr'
    simp [hlen] at hu' hr'
    subst hu'; subst hr'
    exact key _ _ hu

theorem recs_some {k : Nat} {b r : List UInt8} (h : first b = some r) : recs (k + 1) b = (r :: (recs k (b.drop (6 + r.length))).1, 6 + r.length + (recs k (b.drop (6 + r.length))).2) := by simp [recs, h]
theorem recs_none {k : Nat} {b : List UInt8} (h : first b = none) : recs k b = ([], 0) := by cases k <;> simp [recs, h]

theorem refRecords_any (v : Value) (l : List UInt8) (w : World) (h : BytesAt anyB w v l) :
    Fn Try.prog 16 [v] w fun v w' => ∃ rv, v = .tuple #[rv, .int .i64 (recs 500 l).2] ∧ Rs w' w.heap.size rv (recs 500 l).1 ∧ Ext w w' := by
  have h0 := h
  obtain ⟨a, c, rfl, hl, hc, hm, hx⟩ := h0
  refine fn_of_wc Try.func16 rfl Try.ntmps16 (Nat.le_of_ble_eq_true rfl) (by kernel_rfl) ?_
  repeat'
    first
      | refine Q_then ?_ | refine C_cond_t rfl ?_ | refine C_cond_f rfl ?_ | refine C_seq ?_ | refine C_block ?_ | refine C_skip ?_ | refine C_ret ?_ | refine C_exit ?_
      | refine Q_then_ret ?_ | refine Q_then_exit ?_ | refine Q_block ?_ | refine Q_block_ret ?_ | refine Q_block_here ?_ | refine Q_block_on rfl ?_ | refine C_scope ?_ | refine C_label ?_ | refine Q_asn ?_
  (refine C_region ?_
   <;> (refine M_assign ?_; (first | refine M_slice rfl ?_ | refine W_move ?_))
   <;> (refine M_assign ?_; (first | refine M_int rfl ?_ | refine W_move ?_))
   <;> refine W_nil ?_)
  repeat'
    first
      | refine Q_then ?_ | refine C_cond_t rfl ?_ | refine C_cond_f rfl ?_ | refine C_seq ?_ | refine C_block ?_ | refine C_skip ?_ | refine C_ret ?_ | refine C_exit ?_
      | refine Q_then_ret ?_ | refine Q_then_exit ?_ | refine Q_block ?_ | refine Q_block_ret ?_ | refine Q_block_here ?_ | refine Q_block_on rfl ?_ | refine C_scope ?_ | refine C_label ?_ | refine Q_asn ?_
  (refine C_region ?_
   <;> (refine M_assign ?_; (first | refine M_slice rfl ?_ | refine W_move ?_))
   <;> refine W_nil ?_)
  repeat'
    first
      | refine Q_then ?_ | refine C_cond_t rfl ?_ | refine C_cond_f rfl ?_ | refine C_seq ?_ | refine C_block ?_ | refine C_skip ?_ | refine C_ret ?_ | refine C_exit ?_
      | refine Q_then_ret ?_ | refine Q_then_exit ?_ | refine Q_block ?_ | refine Q_block_ret ?_ | refine Q_block_here ?_ | refine Q_block_on rfl ?_ | refine C_scope ?_ | refine C_label ?_ | refine Q_asn ?_
  (refine C_region ?_
   <;> (refine M_assign ?_; (first | refine M_int rfl ?_ | refine W_move ?_))
   <;> refine W_nil ?_)
  repeat'
    first
      | refine Q_then ?_ | refine C_cond_t rfl ?_ | refine C_cond_f rfl ?_ | refine C_seq ?_ | refine C_block ?_ | refine C_skip ?_ | refine C_ret ?_ | refine C_exit ?_
      | refine Q_then_ret ?_ | refine Q_then_exit ?_ | refine Q_block ?_ | refine Q_block_ret ?_ | refine Q_block_here ?_ | refine Q_block_on rfl ?_ | refine C_scope ?_ | refine C_label ?_ | refine Q_asn ?_
  refine C_loop (α := List (List UInt8) × Nat × Value) (fun x => [(0, .slice a l.length c), (4, x.2.2), (5, .int .i64 x.2.1)])
    (fun x wk => x.1.length ≤ 500 ∧ x.2.1 ≤ l.length ∧ recs 500 l = (x.1 ++ (recs (500 - x.1.length) (l.drop x.2.1)).1, x.2.1 + (recs (500 - x.1.length) (l.drop x.2.1)).2) ∧ Rs wk w.heap.size x.2.2 x.1 ∧ Ext w wk)
    (fun x => 500 - x.1.length) ([], 0, .slice none 0 0) ⟨rfl, rfl, rfl, trivial⟩ ⟨by simp, by simp, by simp, Rs.nil _ _, Ext.refl _⟩ ?_
  rintro ⟨rs, o, rv⟩ wk f' ⟨hk, ho, hr, hrs, hw⟩
  simp only at hk ho hr hrs
  change WC _ _ _ _ (ov [(0, .slice a l.length c), (4, rv), (5, .int .i64 (o : Int))] f') _ _
  repeat'
    first
      | refine Q_then ?_ | refine C_cond_t rfl ?_ | refine C_cond_f rfl ?_ | refine C_seq ?_ | refine C_block ?_ | refine C_skip ?_ | refine C_ret ?_ | refine C_exit ?_
      | refine Q_then_ret ?_ | refine Q_then_exit ?_ | refine Q_block ?_ | refine Q_block_ret ?_ | refine Q_block_here ?_ | refine Q_block_on rfl ?_ | refine C_scope ?_ | refine C_label ?_ | refine Q_asn ?_
  obtain ⟨ra, rc, rfl⟩ := hrs.form
  (refine C_region ?_
   <;> (first | refine M_slice rfl ?_ | refine W_move ?_)
   <;> refine W_len rfl ?_
   <;> (refine W_lss rfl rfl (fun hc => ?_) (fun hc => ?_) <;> try (exfalso; omega))
   <;> refine W_nil ?_)
  · repeat'
      first
        | refine Q_then ?_ | refine C_cond_t rfl ?_ | refine C_cond_f rfl ?_ | refine C_seq ?_ | refine C_block ?_ | refine C_skip ?_ | refine C_ret ?_ | refine C_exit ?_
        | refine Q_then_ret ?_ | refine Q_then_exit ?_ | refine Q_block ?_ | refine Q_block_ret ?_ | refine Q_block_here ?_ | refine Q_block_on rfl ?_ | refine C_scope ?_ | refine C_label ?_ | refine Q_asn ?_
    (refine C_region ?_
     <;> (first | refine M_slice rfl ?_ | refine W_move ?_)
     <;> (first | refine M_int rfl ?_ | refine W_move ?_)
     <;> refine W_slice_l rfl rfl (by omega) (by omega) ?_)
    -- at operation 3: <dst=(some 15) op=(call <callee=(value (func 29)) args=[(tmp 14)] argTypes=[24]>) type=55 guard=none>
    refine W_call (first_any _ (l.drop o) _ ((h.ext hw).drop o (by omega))) rfl ?_
    rintro u1 w1 ⟨pv, rfl, k1, hp⟩
    ((first | refine M_tuple rfl ?_ | refine W_move ?_)
     <;> refine W_extract rfl rfl ?_
     <;> refine W_extract rfl rfl ?_
     <;> (refine M_assign ?_; (first | refine M_slice rfl ?_ | refine W_move ?_))
     <;> (refine M_assign ?_; (first | refine M_bool rfl ?_ | refine W_move ?_))
     <;> refine W_nil ?_)
    have e500 : 500 - rs.length = (500 - (rs.length + 1)) + 1 := by omega
    cases hf : first (l.drop o) with
    | none =>
      repeat'
        first
          | refine Q_then ?_ | refine C_cond_t rfl ?_ | refine C_cond_f rfl ?_ | refine C_seq ?_ | refine C_block ?_ | refine C_skip ?_ | refine C_ret ?_ | refine C_exit ?_
          | refine Q_then_ret ?_ | refine Q_then_exit ?_ | refine Q_block ?_ | refine Q_block_ret ?_ | refine Q_block_here ?_ | refine Q_block_on rfl ?_ | refine C_scope ?_ | refine C_label ?_ | refine Q_asn ?_
      (refine C_region ?_
       <;> (first | refine M_bool rfl ?_ | refine W_move ?_)
       <;> refine W_not rfl ?_
       <;> refine W_nil ?_)
      repeat'
        first
          | refine Q_then ?_ | refine C_cond_t rfl ?_ | refine C_cond_f rfl ?_ | refine C_seq ?_ | refine C_block ?_ | refine C_skip ?_ | refine C_ret ?_ | refine C_exit ?_
          | refine Q_then_ret ?_ | refine Q_then_exit ?_ | refine Q_block ?_ | refine Q_block_ret ?_ | refine Q_block_here ?_ | refine Q_block_on rfl ?_ | refine C_scope ?_ | refine C_label ?_ | refine Q_asn ?_
      (refine C_region ?_
       <;> (first | refine M_slice rfl ?_ | refine W_move ?_)
       <;> (first | refine M_int rfl ?_ | refine W_move ?_)
       <;> (refine M_assign ?_; (first | refine M_slice rfl ?_ | refine W_move ?_))
       <;> (refine M_assign ?_; (first | refine M_int rfl ?_ | refine W_move ?_))
       <;> refine W_nil ?_)
      repeat'
        first
          | refine Q_then ?_ | refine C_cond_t rfl ?_ | refine C_cond_f rfl ?_ | refine C_seq ?_ | refine C_block ?_ | refine C_skip ?_ | refine C_ret ?_ | refine C_exit ?_
          | refine Q_then_ret ?_ | refine Q_then_exit ?_ | refine Q_block ?_ | refine Q_block_ret ?_ | refine Q_block_here ?_ | refine Q_block_on rfl ?_ | refine C_scope ?_ | refine C_label ?_ | refine Q_asn ?_
      rw [recs_none hf] at hr
      refine fin_ret2 rfl ⟨_, by rw [hr]; rfl, ?_, hw.trans k1⟩
      rw [hr, List.append_nil]
      exact hrs.ext k1
    | some r =>
      have hpr := hp r hf
      obtain ⟨f1, f2, f3⟩ := first_length hf
      rw [List.length_drop] at f3
      rw [e500, recs_some hf] at hr
      obtain ⟨pa, pc, rfl, _⟩ := id hpr
      repeat'
        first
          | refine Q_then ?_ | refine C_cond_t rfl ?_ | refine C_cond_f rfl ?_ | refine C_seq ?_ | refine C_block ?_ | refine C_skip ?_ | refine C_ret ?_ | refine C_exit ?_
          | refine Q_then_ret ?_ | refine Q_then_exit ?_ | refine Q_block ?_ | refine Q_block_ret ?_ | refine Q_block_here ?_ | refine Q_block_on rfl ?_ | refine C_scope ?_ | refine C_label ?_ | refine Q_asn ?_
      (refine C_region ?_
       <;> (first | refine M_bool rfl ?_ | refine W_move ?_)
       <;> refine W_not rfl ?_
       <;> refine W_nil ?_)
      repeat'
        first
          | refine Q_then ?_ | refine C_cond_t rfl ?_ | refine C_cond_f rfl ?_ | refine C_seq ?_ | refine C_block ?_ | refine C_skip ?_ | refine C_ret ?_ | refine C_exit ?_
          | refine Q_then_ret ?_ | refine Q_then_exit ?_ | refine Q_block ?_ | refine Q_block_ret ?_ | refine Q_block_here ?_ | refine Q_block_on rfl ?_ | refine C_scope ?_ | refine C_label ?_ | refine Q_asn ?_
      (refine C_region ?_
       <;> (first | refine M_slice rfl ?_ | refine W_move ?_))
      -- at operation 1: <dst=(some 23) op=(buildSlice 24 0 []) type=24 guard=none>
      refine W_buildSlice1 (out := []) rfl (by omega) rfl rfl (fun w2 n2 => ?_)
      ((first | refine M_slice rfl ?_ | refine W_move ?_))
      -- at operation 3: <dst=(some 25) op=(call <callee=(builtin append) args=[(tmp 23), (tmp 24)] argTypes=[24, 24]>) type=24 guard=none>
      refine W_apd8 rfl rfl rfl (own_nil n2) (hpr.ext (k1.trans n2.keep)) (by omega) (by have := n2.size; omega) (fun u3 w3 a3 => ?_)
      have k3 := n2.keep.apd (own_nil n2) (Nat.le_refl _) a3
      obtain ⟨a3', c3', rfl⟩ := own_form a3.own
      refine W_buildSlice1 (out := [.slice a3' (0 + r.length) c3']) rfl (by omega) rfl rfl (fun w4 n4 => ?_)
      have o3 := ownsRow_ext a3.own n4.keep
      obtain ⟨vs, hv1, hv2⟩ := hrs.ext (k1.trans (k3.trans n4.keep))
      have o4 := n4.own (n := 1) (size := 1) rfl (by unfold maxLen; omega) (Nat.le_refl _)
      have ltr : ∀ g, (Value.slice ra rs.length rc).ownBlock = some g → g < wk.heap.size := by
        obtain ⟨vs0, hv0, _⟩ := id hrs
        exact fun g hg => (hv0.lt g hg).2
      have hu : BytesAt (fun b => b < w4.heap.size ∧ (Value.slice ra rs.length rc).ownBlock ≠ some b ∧ w.heap.size ≤ b) w4 (.slice a3' (0 + r.length) c3') r := by
        have := Sl_of_own (ok := fun b => b < w4.heap.size ∧ (Value.slice ra rs.length rc).ownBlock ≠ some b ∧ w.heap.size ≤ b) o3 (fun g hg => ⟨(o3.lt g hg).2, (fun e => by have := ltr g e; have := (o3.lt g hg).1; have := k1.size; omega), by have := (o3.lt g hg).1; have := k1.size; have := hw.size; omega⟩)
        unfold BytesAt
        simpa using this
      refine W_append rfl rfl hv1 (Sl_of_own (ok := anyB) o4 fun _ _ => trivial) (by omega) rfl rfl (by intro u hu; simp at hu; subst hu; rfl) (by omega) (by omega) (by have := n4.keep.size; have := k3.size; have := k1.size; have := hw.size; omega) (fun u5 w5 a5 => ?_)
      have k5 : Ext w w5 := (hw.trans (k1.trans (k3.trans n4.keep))).apd hv1 (Nat.le_refl _) a5
      have hrs5 := Rs.push hv1 hv2 hu a5
      ((refine M_assign ?_; (first | refine M_slice rfl ?_ | refine W_move ?_))
       <;> refine W_nil ?_)
      repeat'
        first
          | refine Q_then ?_ | refine C_cond_t rfl ?_ | refine C_cond_f rfl ?_ | refine C_seq ?_ | refine C_block ?_ | refine C_skip ?_ | refine C_ret ?_ | refine C_exit ?_
          | refine Q_then_ret ?_ | refine Q_then_exit ?_ | refine Q_block ?_ | refine Q_block_ret ?_ | refine Q_block_here ?_ | refine Q_block_on rfl ?_ | refine C_scope ?_ | refine C_label ?_ | refine Q_asn ?_
      (refine C_region ?_
       <;> (first | refine M_int rfl ?_ | refine W_move ?_)
       <;> refine W_add rfl rfl (by first | exact inR_i64 (by omega) (by omega) | exact inR_u8 (by omega) (by omega) | exact inR_u16 (by omega) (by omega)) ?_
       <;> (first | refine M_slice rfl ?_ | refine W_move ?_)
       <;> refine W_len rfl ?_
       <;> refine W_add rfl rfl (by first | exact inR_i64 (by omega) (by omega) | exact inR_u8 (by omega) (by omega) | exact inR_u16 (by omega) (by omega)) ?_
       <;> (refine M_assign ?_; (first | refine M_int rfl ?_ | refine W_move ?_))
       <;> refine W_nil ?_)
      repeat'
        first
          | refine Q_then ?_ | refine C_cond_t rfl ?_ | refine C_cond_f rfl ?_ | refine C_seq ?_ | refine C_block ?_ | refine C_skip ?_ | refine C_ret ?_ | refine C_exit ?_
          | refine Q_then_ret ?_ | refine Q_then_exit ?_ | refine Q_block ?_ | refine Q_block_ret ?_ | refine Q_block_here ?_ | refine Q_block_on rfl ?_ | refine C_scope ?_ | refine C_label ?_ | refine Q_asn ?_
      refine ⟨(rs ++ [r], o + (6 + r.length), u5), ⟨rfl, ⟨rfl, rfl, ?_, trivial⟩, by simp; omega, ?_, ?_, hrs5, k5⟩, by simp; omega⟩
      · refine congrArg (Value.int .i64) ?_
        show _ = ((o + (6 + r.length) : Nat) : Int)
        omega
      · show o + (6 + r.length) ≤ l.length
        omega
      · simp only [List.length_append, List.length_cons, List.length_nil, List.append_assoc, List.singleton_append, List.drop_drop] at hr ⊢
        rw [hr]
        simp only [Nat.add_assoc]
  · have e : rs.length = 500 := by omega
    have e0 : recs 0 (l.drop o) = ([], 0) := rfl
    rw [e, Nat.sub_self, e0, List.append_nil, Nat.add_zero] at hr
    repeat'
      first
        | refine Q_then ?_ | refine C_cond_t rfl ?_ | refine C_cond_f rfl ?_ | refine C_seq ?_ | refine C_block ?_ | refine C_skip ?_ | refine C_ret ?_ | refine C_exit ?_
        | refine Q_then_ret ?_ | refine Q_then_exit ?_ | refine Q_block ?_ | refine Q_block_ret ?_ | refine Q_block_here ?_ | refine Q_block_on rfl ?_ | refine C_scope ?_ | refine C_label ?_ | refine Q_asn ?_
    (refine C_region ?_
     <;> (first | refine M_slice rfl ?_ | refine W_move ?_)
     <;> (first | refine M_int rfl ?_ | refine W_move ?_)
     <;> (refine M_assign ?_; (first | refine M_slice rfl ?_ | refine W_move ?_))
     <;> (refine M_assign ?_; (first | refine M_int rfl ?_ | refine W_move ?_))
     <;> refine W_nil ?_)
    repeat'
      first
        | refine Q_then ?_ | refine C_cond_t rfl ?_ | refine C_cond_f rfl ?_ | refine C_seq ?_ | refine C_block ?_ | refine C_skip ?_ | refine C_ret ?_ | refine C_exit ?_
        | refine Q_then_ret ?_ | refine Q_then_exit ?_ | refine Q_block ?_ | refine Q_block_ret ?_ | refine Q_block_here ?_ | refine Q_block_on rfl ?_ | refine C_scope ?_ | refine C_label ?_ | refine Q_asn ?_
    refine fin_ret2 rfl ⟨_, by rw [hr]; rfl, ?_, hw⟩
    rw [hr]
    exact hrs

theorem recs_le (k : Nat) : ∀ l : List UInt8, (recs k l).2 ≤ l.length := by
  induction k with
  | zero => intro l; simp [recs]
  | succ k ih =>
    intro l
    cases hf : first l with
    | none => rw [recs_none hf]; simp
    | some r =>
      rw [recs_some hf]
      have := ih (l.drop (6 + r.length))
      have := (first_length hf).2.2
      simp only [List.length_drop] at *
      omega

theorem refAppend_any (v1 v2 : Value) (l p : List UInt8) (w : World) (h1 : BytesAt anyB w v1 l) (h2 : BytesAt anyB w v2 p) (hb : l.length ≤ 140000000000000) :
    Fn Try.prog 14 [v1, v2] w fun v w' => ∃ rv, Ext w w' ∧
      ((p.length < 1 ∨ 4000 < p.length) → v = .tuple #[.slice none 0 0, .int .i64 1]) ∧
      (1 ≤ p.length → p.length ≤ 4000 → 500 ≤ (recs 500 l).1.length → v = .tuple #[.slice none 0 0, .int .i64 2]) ∧
      (1 ≤ p.length → p.length ≤ 4000 → (recs 500 l).1.length < 500 → v = .tuple #[rv, .int .i64 0] ∧ w'.ownsRow w.heap.size 5 1 rv ((recs 500 l).2 + (6 + p.length)) (cells8 (l.take (recs 500 l).2 ++ frm p))) := by
  have h01 := h1
  have h02 := h2
  obtain ⟨a1, c1, rfl, hl1, hc1, hm1, hx1⟩ := h01
  obtain ⟨a2, c2, rfl, hl2, hc2, hm2, hx2⟩ := h02
  refine fn_of_wc Try.func14 rfl Try.ntmps14 (Nat.le_of_ble_eq_true rfl) (by kernel_rfl) ?_
  repeat'
    first
      | refine Q_then ?_ | refine C_cond_t rfl ?_ | refine C_cond_f rfl ?_ | refine C_seq ?_ | refine C_block ?_ | refine C_skip ?_ | refine C_ret ?_ | refine C_exit ?_
      | refine Q_then_ret ?_ | refine Q_then_exit ?_ | refine Q_block ?_ | refine Q_block_ret ?_ | refine Q_block_here ?_ | refine Q_block_on rfl ?_ | refine C_scope ?_ | refine C_label ?_ | refine Q_asn ?_
  (refine C_region ?_
   <;> (refine M_assign ?_; (first | refine M_slice rfl ?_ | refine W_move ?_))
   <;> (refine M_assign ?_; (first | refine M_int rfl ?_ | refine W_move ?_))
   <;> refine W_nil ?_)
  repeat'
    first
      | refine Q_then ?_ | refine C_cond_t rfl ?_ | refine C_cond_f rfl ?_ | refine C_seq ?_ | refine C_block ?_ | refine C_skip ?_ | refine C_ret ?_ | refine C_exit ?_
      | refine Q_then_ret ?_ | refine Q_then_exit ?_ | refine Q_block ?_ | refine Q_block_ret ?_ | refine Q_block_here ?_ | refine Q_block_on rfl ?_ | refine C_scope ?_ | refine C_label ?_ | refine Q_asn ?_
  (refine C_region ?_
   <;> (first | refine M_slice rfl ?_ | refine W_move ?_)
   <;> refine W_len rfl ?_
   <;> (refine W_lss rfl rfl (fun hc => ?_) (fun hc => ?_) <;> try (exfalso; omega))
   <;> (first | refine M_bool rfl ?_ | refine W_move ?_)
   <;> (first | refine W_no rfl ?_ | (refine W_yes rfl ?_; (first | refine M_slice rfl ?_ | refine W_move ?_)))
   <;> (first | refine W_no rfl ?_ | (refine W_yes rfl ?_; refine W_len rfl ?_))
   <;> (first | refine W_no rfl ?_ | (refine W_yes rfl ?_; (refine W_gtr rfl rfl (fun hc => ?_) (fun hc => ?_) <;> try (exfalso; omega))))
   <;> ((first | refine M_pick_t rfl ?_ | refine M_pick_f rfl ?_); (first | refine M_bool rfl ?_ | refine W_move ?_))
   <;> refine W_nil ?_)
  all_goals
    repeat'
      first
        | refine Q_then ?_ | refine C_cond_t rfl ?_ | refine C_cond_f rfl ?_ | refine C_seq ?_ | refine C_block ?_ | refine C_skip ?_ | refine C_ret ?_ | refine C_exit ?_
        | refine Q_then_ret ?_ | refine Q_then_exit ?_ | refine Q_block ?_ | refine Q_block_ret ?_ | refine Q_block_here ?_ | refine Q_block_on rfl ?_ | refine C_scope ?_ | refine C_label ?_ | refine Q_asn ?_
  · (refine C_region ?_
     <;> (refine M_assign ?_; (first | refine M_slice rfl ?_ | refine W_move ?_))
     <;> (refine M_assign ?_; (first | refine M_int rfl ?_ | refine W_move ?_))
     <;> refine W_nil ?_)
    repeat'
      first
        | refine Q_then ?_ | refine C_cond_t rfl ?_ | refine C_cond_f rfl ?_ | refine C_seq ?_ | refine C_block ?_ | refine C_skip ?_ | refine C_ret ?_ | refine C_exit ?_
        | refine Q_then_ret ?_ | refine Q_then_exit ?_ | refine Q_block ?_ | refine Q_block_ret ?_ | refine Q_block_here ?_ | refine Q_block_on rfl ?_ | refine C_scope ?_ | refine C_label ?_ | refine Q_asn ?_
    exact fin_ret2 rfl ⟨.bool true, Ext.refl _, fun _ => rfl, fun h => absurd h (by omega), fun h => absurd h (by omega)⟩
  · (refine C_region ?_
     <;> (refine M_assign ?_; (first | refine M_slice rfl ?_ | refine W_move ?_))
     <;> (refine M_assign ?_; (first | refine M_int rfl ?_ | refine W_move ?_))
     <;> refine W_nil ?_)
    repeat'
      first
        | refine Q_then ?_ | refine C_cond_t rfl ?_ | refine C_cond_f rfl ?_ | refine C_seq ?_ | refine C_block ?_ | refine C_skip ?_ | refine C_ret ?_ | refine C_exit ?_
        | refine Q_then_ret ?_ | refine Q_then_exit ?_ | refine Q_block ?_ | refine Q_block_ret ?_ | refine Q_block_here ?_ | refine Q_block_on rfl ?_ | refine C_scope ?_ | refine C_label ?_ | refine Q_asn ?_
    exact fin_ret2 rfl ⟨.bool true, Ext.refl _, fun _ => rfl, fun h h' => absurd h' (by omega), fun h h' => absurd h' (by omega)⟩
  (refine C_region ?_
   <;> (first | refine M_slice rfl ?_ | refine W_move ?_))
  -- at operation 1: <dst=(some 18) op=(call <callee=(value (func 16)) args=[(tmp 17)] argTypes=[24]>) type=32 guard=none>
  refine W_call (refRecords_any _ l _ h1) rfl ?_
  rintro u1 w1 ⟨rv, rfl, hr, k1⟩
  obtain ⟨ra, rc, rfl⟩ := hr.form
  ((first | refine M_tuple rfl ?_ | refine W_move ?_)
   <;> refine W_extract rfl rfl ?_
   <;> refine W_extract rfl rfl ?_
   <;> (refine M_assign ?_; (first | refine M_slice rfl ?_ | refine W_move ?_))
   <;> (refine M_assign ?_; (first | refine M_int rfl ?_ | refine W_move ?_))
   <;> refine W_nil ?_)
  repeat'
    first
      | refine Q_then ?_ | refine C_cond_t rfl ?_ | refine C_cond_f rfl ?_ | refine C_seq ?_ | refine C_block ?_ | refine C_skip ?_ | refine C_ret ?_ | refine C_exit ?_
      | refine Q_then_ret ?_ | refine Q_then_exit ?_ | refine Q_block ?_ | refine Q_block_ret ?_ | refine Q_block_here ?_ | refine Q_block_on rfl ?_ | refine C_scope ?_ | refine C_label ?_ | refine Q_asn ?_
  (refine C_region ?_
   <;> (first | refine M_slice rfl ?_ | refine W_move ?_)
   <;> refine W_len rfl ?_
   <;> (refine W_geq rfl rfl (fun hc => ?_) (fun hc => ?_) <;> try (exfalso; omega))
   <;> refine W_nil ?_)
  · repeat'
      first
        | refine Q_then ?_ | refine C_cond_t rfl ?_ | refine C_cond_f rfl ?_ | refine C_seq ?_ | refine C_block ?_ | refine C_skip ?_ | refine C_ret ?_ | refine C_exit ?_
        | refine Q_then_ret ?_ | refine Q_then_exit ?_ | refine Q_block ?_ | refine Q_block_ret ?_ | refine Q_block_here ?_ | refine Q_block_on rfl ?_ | refine C_scope ?_ | refine C_label ?_ | refine Q_asn ?_
    (refine C_region ?_
     <;> (refine M_assign ?_; (first | refine M_slice rfl ?_ | refine W_move ?_))
     <;> (refine M_assign ?_; (first | refine M_int rfl ?_ | refine W_move ?_))
     <;> refine W_nil ?_)
    repeat'
      first
        | refine Q_then ?_ | refine C_cond_t rfl ?_ | refine C_cond_f rfl ?_ | refine C_seq ?_ | refine C_block ?_ | refine C_skip ?_ | refine C_ret ?_ | refine C_exit ?_
        | refine Q_then_ret ?_ | refine Q_then_exit ?_ | refine Q_block ?_ | refine Q_block_ret ?_ | refine Q_block_here ?_ | refine Q_block_on rfl ?_ | refine C_scope ?_ | refine C_label ?_ | refine Q_asn ?_
    exact fin_ret2 rfl ⟨.bool true, k1, fun h => absurd h (by omega), fun _ _ _ => rfl, fun _ _ h => absurd h (by omega)⟩
  repeat'
    first
      | refine Q_then ?_ | refine C_cond_t rfl ?_ | refine C_cond_f rfl ?_ | refine C_seq ?_ | refine C_block ?_ | refine C_skip ?_ | refine C_ret ?_ | refine C_exit ?_
      | refine Q_then_ret ?_ | refine Q_then_exit ?_ | refine Q_block ?_ | refine Q_block_ret ?_ | refine Q_block_here ?_ | refine Q_block_on rfl ?_ | refine C_scope ?_ | refine C_label ?_ | refine Q_asn ?_
  have hle := recs_le 500 l
  generalize (recs 500 l).1 = rs at *
  generalize (recs 500 l).2 = o at *
  (refine C_region ?_)
  -- at operation 0: <dst=(some 24) op=(buildSlice 24 0 []) type=24 guard=none>
  refine W_buildSlice1 (out := []) rfl (by omega) rfl rfl (fun w2 n2 => ?_)
  have o2 := own_nil n2
  have k2 := n2.keep
  ((first | refine M_slice rfl ?_ | refine W_move ?_)
   <;> (first | refine M_int rfl ?_ | refine W_move ?_)
   <;> refine W_slice_h rfl rfl (by omega) (by omega) ?_)
  -- at operation 4: <dst=(some 28) op=(call <callee=(builtin append) args=[(tmp 24), (tmp 27)] argTypes=[24, 24]>) type=24 guard=none>
  have ht := (h1.take o hle)
  have htl : (l.take o).length = o := by simp; omega
  generalize l.take o = t at *
  refine W_apd8 rfl rfl rfl o2 (ht.ext (k1.trans k2)) (by omega) (by have := k2.size; omega) (fun u3 w3 a3 => ?_)
  have k3 := k2.apd o2 (Nat.le_refl _) a3
  ((first | refine M_slice rfl ?_ | refine W_move ?_))
  -- at operation 6: <dst=(some 30) op=(call <callee=(value (func 28)) args=[(tmp 29)] argTypes=[24]>) type=24 guard=none>
  refine W_call (frame_any _ p _ (h2.ext (k1.trans k3)) (by omega)) rfl ?_
  rintro u4 w4 ⟨o4, k4⟩
  have o3 := ownsRow_ext a3.own k4
  have k34 := k3.trans k4
  refine W_apd8 rfl rfl rfl o3 (own_bytes o4 (by rw [frm_length])) (by rw [frm_length]; omega) (by have := k34.size; omega) (fun u5 w5 a5 => ?_)
  have k5 := k34.apd o3 (Nat.le_refl _) a5
  ((refine M_assign ?_; (first | refine M_slice rfl ?_ | refine W_move ?_))
   <;> (refine M_assign ?_; (first | refine M_int rfl ?_ | refine W_move ?_))
   <;> refine W_nil ?_)
  repeat'
    first
      | refine Q_then ?_ | refine C_cond_t rfl ?_ | refine C_cond_f rfl ?_ | refine C_seq ?_ | refine C_block ?_ | refine C_skip ?_ | refine C_ret ?_ | refine C_exit ?_
      | refine Q_then_ret ?_ | refine Q_then_exit ?_ | refine Q_block ?_ | refine Q_block_ret ?_ | refine Q_block_here ?_ | refine Q_block_on rfl ?_ | refine C_scope ?_ | refine C_label ?_ | refine Q_asn ?_
  refine fin_ret2 rfl ⟨u5, k1.trans k5, fun h => absurd h (by omega), fun _ _ h => absurd h (by omega), fun _ _ _ => ⟨rfl, ?_⟩⟩
  have := a5.own
  rw [frm_length, htl, List.nil_append, Nat.zero_add] at this
  exact ownsRow_mono this k1.size
end Go.Proofs.Ytfbahfibgmdlnaa
