/- The frame of a record, the record of a frame, walked. Conditions: none. -/
import Derived.Test.YtfbahfibgmdlnaaJ3
namespace Go.Proofs.Ytfbahfibgmdlnaa
open Go.RowKit
set_option linter.unusedVariables false

theorem Ext.apd {w0 w1 w2 : World} {B e size n m : Nat} {v v' : Value} {xs ys : List Value} (h : Ext w0 w1) (o : w1.ownsRow B e size v n xs) (hB : w0.heap.size ≤ B) (a : Apd w1 w2 B e size v v' m ys) : Ext w0 w2 :=
  h.keep a.keep fun x hx => Nat.le_trans hB (o.lt x (by simpa using hx)).1
theorem own_nil {w w' : World} {e : Nat} (h : New w w' e []) : w'.ownsRow w.heap.size e 1 (.slice (some ⟨w.heap.size, 0, none⟩) 0 0) 0 (cells8 []) := h.own rfl (by unfold maxLen; omega) (Nat.le_refl _)

section
variable {P : Program} {all : Array Oper} {Z : Fr → DS → List PanicEntry → World → Prop} {K : Fr → DS → World → Prop} {rest : List Oper} {f : Fr} {ds : DS} {w : World}
  {d : Nat} {ty : TypeId} {pos : String} {af : Array Edge}
theorem W_apd8 {T e : Nat} {z : Value} {s x : Operand} {B n : Nat} {v sv : Value} {l m : List UInt8} {ok : Nat → Prop} [hT : SlT P T e 1 1 z] (hz : z.cells.size = 1) (hv : ev f s = v) (hx : ev f x = sv)
    (hown : w.ownsRow B e 1 v n (cells8 l)) (hs : BytesAt ok w sv m) (hb : n + m.length ≤ 140737488355328) (hB : B ≤ w.heap.size)
    (h : ∀ v' w', Apd w w' B e 1 v v' (n + m.length) (cells8 (l ++ m)) → WOps P all Z K rest (upd f d v') ds w') :
    WOps P all Z K (⟨some d, .call ⟨.builtin .append, #[s, x], #[T, T]⟩, ty, pos, af, none⟩ :: rest) f ds w :=
  W_append hv hx hown hs (by omega) hz (by simp [cells8_length]) (oneC_cells8 _) (by omega) (by omega) hB (by rw [← cells8_append]; exact h)
end
theorem own_bytes {w : World} {B e : Nat} {v : Value} {n : Nat} {l : List UInt8} (h : w.ownsRow B e 1 v n (cells8 l)) (hn : n = l.length) : BytesAt anyB w v l := by
  subst hn; exact Sl_of_own h fun _ _ => trivial

theorem frame_any (v : Value) (l : List UInt8) (w : World) (h : BytesAt anyB w v l) (hl : l.length ≤ 65535) :
    Fn Try.prog 28 [v] w fun v w' => w'.ownsRow w.heap.size 5 1 v (6 + l.length) (cells8 (frm l)) ∧ Ext w w' := by
  have h0 := h
  obtain ⟨a, c, rfl, hlc, hc, hm, hx⟩ := h0
  refine fn_of_wc Try.func28 rfl Try.ntmps28 (Nat.le_of_ble_eq_true rfl) (by kernel_rfl) ?_
  repeat'
    first
      | refine Q_then ?_ | refine C_cond_t rfl ?_ | refine C_cond_f rfl ?_ | refine C_seq ?_ | refine C_block ?_ | refine C_skip ?_ | refine C_ret ?_ | refine C_exit ?_
      | refine Q_then_ret ?_ | refine Q_then_exit ?_ | refine Q_block ?_ | refine Q_block_ret ?_ | refine Q_block_here ?_ | refine Q_block_on rfl ?_ | refine C_scope ?_ | refine C_label ?_ | refine Q_asn ?_
  (refine C_region ?_
   <;> (refine M_assign ?_; (first | refine M_slice rfl ?_ | refine W_move ?_))
   <;> refine W_nil ?_)
  repeat'
    first
      | refine Q_then ?_ | refine C_cond_t rfl ?_ | refine C_cond_f rfl ?_ | refine C_seq ?_ | refine C_block ?_ | refine C_skip ?_ | refine C_ret ?_ | refine C_exit ?_
      | refine Q_then_ret ?_ | refine Q_then_exit ?_ | refine Q_block ?_ | refine Q_block_ret ?_ | refine Q_block_here ?_ | refine Q_block_on rfl ?_ | refine C_scope ?_ | refine C_label ?_ | refine Q_asn ?_
  (refine C_region ?_
   <;> (first | refine M_slice rfl ?_ | refine W_move ?_)
   <;> refine W_len rfl ?_)
  -- at operation 2: <dst=(some 7) op=(call <callee=(value (func 30)) args=[(tmp 6)] argTypes=[3]>) type=24 guard=none>
  refine W_call (two_any l.length _ hl) rfl ?_
  rintro u1 w1 ⟨o1, k1⟩
  ((refine M_assign ?_; (first | refine M_slice rfl ?_ | refine W_move ?_))
   <;> refine W_nil ?_)
  repeat'
    first
      | refine Q_then ?_ | refine C_cond_t rfl ?_ | refine C_cond_f rfl ?_ | refine C_seq ?_ | refine C_block ?_ | refine C_skip ?_ | refine C_ret ?_ | refine C_exit ?_
      | refine Q_then_ret ?_ | refine Q_then_exit ?_ | refine Q_block ?_ | refine Q_block_ret ?_ | refine Q_block_here ?_ | refine Q_block_on rfl ?_ | refine C_scope ?_ | refine C_label ?_ | refine Q_asn ?_
  (refine C_region ?_)
  -- at operation 0: <dst=(some 8) op=(buildSlice 24 0 []) type=24 guard=none>
  refine W_buildSlice1 (out := []) rfl (by omega) rfl rfl (fun w2 n2 => ?_)
  have o2 := own_nil n2
  have k2 := n2.keep
  ((first | refine M_slice rfl ?_ | refine W_move ?_))
  -- at operation 2: <dst=(some 10) op=(call <callee=(builtin append) args=[(tmp 8), (tmp 9)] argTypes=[24, 24]>) type=24 guard=none>
  refine W_apd8 rfl rfl rfl o2 (own_bytes (ownsRow_ext o1 k2) rfl) (by simp [two_length]) (by have := k2.size; omega) (fun u3 w3 a3 => ?_)
  have k3 := k2.apd o2 (Nat.le_refl _) a3
  ((refine M_assign ?_; (first | refine M_slice rfl ?_ | refine W_move ?_))
   <;> refine W_nil ?_)
  repeat'
    first
      | refine Q_then ?_ | refine C_cond_t rfl ?_ | refine C_cond_f rfl ?_ | refine C_seq ?_ | refine C_block ?_ | refine C_skip ?_ | refine C_ret ?_ | refine C_exit ?_
      | refine Q_then_ret ?_ | refine Q_then_exit ?_ | refine Q_block ?_ | refine Q_block_ret ?_ | refine Q_block_here ?_ | refine Q_block_on rfl ?_ | refine C_scope ?_ | refine C_label ?_ | refine Q_asn ?_
  (refine C_region ?_
   <;> (first | refine M_slice rfl ?_ | refine W_move ?_))
  -- at operation 1: <dst=(some 12) op=(buildSlice 24 0 []) type=24 guard=none>
  refine W_buildSlice1 (out := []) rfl (by omega) rfl rfl (fun w4 n4 => ?_)
  have o4 := own_nil n4
  have k4 := n4.keep
  ((first | refine M_slice rfl ?_ | refine W_move ?_))
  -- at operation 3: <dst=(some 14) op=(call <callee=(builtin append) args=[(tmp 12), (tmp 13)] argTypes=[24, 24]>) type=24 guard=none>
  refine W_apd8 rfl rfl rfl o4 (own_bytes (ownsRow_ext o1 (k3.trans k4)) rfl) (by simp [two_length]) (by have := k4.size; omega) (fun u5 w5 a5 => ?_)
  have k5 := k4.apd o4 (Nat.le_refl _) a5
  ((first | refine M_slice rfl ?_ | refine W_move ?_))
  -- at operation 5: <dst=(some 16) op=(call <callee=(builtin append) args=[(tmp 14), (tmp 15)] argTypes=[24, 24]>) type=24 guard=none>
  refine W_apd8 rfl rfl rfl a5.own (h.ext ((k1.trans k3).trans k5)) (by simp [two_length]; omega) (by have := k5.size; omega) (fun u6 w6 a6 => ?_)
  have k6 := k5.apd a5.own (Nat.le_refl _) a6
  skip
  -- at operation 6: <dst=(some 17) op=(call <callee=(value (func 32)) args=[(tmp 16)] argTypes=[24]>) type=24 guard=none>
  refine W_call (Sum_any u6 _ _ (own_bytes a6.own (by simp))) rfl ?_
  rintro u7 w7 ⟨o7, k7⟩
  skip
  -- at operation 7: <dst=(some 18) op=(call <callee=(builtin append) args=[(tmp 11), (tmp 17)] argTypes=[24, 24]>) type=24 guard=none>
  have k7' := k6.trans k7
  refine W_apd8 rfl rfl rfl (ownsRow_ext a3.own k7') (own_bytes o7 rfl) (by simp [two_length, chk_length]) (by have := k3.size; have := k7'.size; omega) (fun u8 w8 a8 => ?_)
  have k8 := (k3.trans k7').apd (ownsRow_ext a3.own k7') (Nat.le_refl _) a8
  ((refine M_assign ?_; (first | refine M_slice rfl ?_ | refine W_move ?_))
   <;> refine W_nil ?_)
  repeat'
    first
      | refine Q_then ?_ | refine C_cond_t rfl ?_ | refine C_cond_f rfl ?_ | refine C_seq ?_ | refine C_block ?_ | refine C_skip ?_ | refine C_ret ?_ | refine C_exit ?_
      | refine Q_then_ret ?_ | refine Q_then_exit ?_ | refine Q_block ?_ | refine Q_block_ret ?_ | refine Q_block_here ?_ | refine Q_block_on rfl ?_ | refine C_scope ?_ | refine C_label ?_ | refine Q_asn ?_
  (refine C_region ?_
   <;> (first | refine M_slice rfl ?_ | refine W_move ?_)
   <;> (first | refine M_slice rfl ?_ | refine W_move ?_))
  -- at operation 2: <dst=(some 21) op=(call <callee=(builtin append) args=[(tmp 19), (tmp 20)] argTypes=[24, 24]>) type=24 guard=none>
  refine W_apd8 rfl rfl rfl a8.own (h.ext (k1.trans k8)) (by simp [two_length, chk_length]; omega) (by have := k8.size; omega) (fun u9 w9 a9 => ?_)
  have k9 := k8.apd a8.own (Nat.le_refl _) a9
  ((refine M_assign ?_; (first | refine M_slice rfl ?_ | refine W_move ?_))
   <;> refine W_nil ?_)
  repeat'
    first
      | refine Q_then ?_ | refine C_cond_t rfl ?_ | refine C_cond_f rfl ?_ | refine C_seq ?_ | refine C_block ?_ | refine C_skip ?_ | refine C_ret ?_ | refine C_exit ?_
      | refine Q_then_ret ?_ | refine Q_then_exit ?_ | refine Q_block ?_ | refine Q_block_ret ?_ | refine Q_block_here ?_ | refine Q_block_on rfl ?_ | refine C_scope ?_ | refine C_label ?_ | refine Q_asn ?_
  refine fin_ret1 rfl ⟨?_, k1.trans k9⟩
  have := a9.own
  simp only [two_length, chk_length, List.nil_append] at this
  have e : 0 + 2 + 4 + l.length = 6 + l.length := by omega
  rw [e] at this
  have hf : frm l = two l.length ++ chk (two l.length ++ l) ++ l := rfl
  rw [hf]
  exact ownsRow_mono this k1.size
end Go.Proofs.Ytfbahfibgmdlnaa
