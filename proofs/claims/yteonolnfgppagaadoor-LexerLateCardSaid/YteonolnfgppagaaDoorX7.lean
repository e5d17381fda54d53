/- The lexer: Lex, and its deferred call. Conditions: none. -/
import Derived.Test.YteonolnfgppagaaDoorX6
import Derived.Test.YteonolnfgppagaaDoorOps6
namespace Go.Proofs.YteonolnfgppagaaDoor
open Go.RowKit
set_option linter.unusedVariables false

theorem rec_ret (w : World) (c2 c3 c4 : Nat) : CallsDIn Fence.wide 0 Tryd.prog 15 ([] ++ [pt c2, pt c3, pt c4] : List Value).toArray .returning w (fun e u' w' => match e with | .returned _ => u' = .returning ∧ Ext w w' | _ => False) := by
  refine callsD_rec (u1 := .returning) (v0 := .nilIface) (G := fun _ w' => Ext w w') (args := [pt c2, pt c3, pt c4]) Tryd.func15 rfl Tryd.ntmps15 (by simp) (by decide) (by kernel_rfl) (by kernel_rfl) (.inl ⟨rfl, rfl, rfl⟩) ?_
  refine W_assert_nil (z := .agg #[.int .i64 0, .int .i64 0]) rfl (by kernel_rfl) ?_
  ((first | refine M_tuple rfl ?_ | refine W_move ?_)
   <;> refine W_extract rfl rfl ?_
   <;> refine W_extract rfl rfl ?_)
  -- at operation 5: <dst=(some 3) op=(alloc 39) type=0 guard=none>
  refine W_alloc (fun w1 n1 => ?_)
  refine W_store_agg (cs := [.int .i64 0, .int .i64 0]) rfl rfl rfl (by intro u hu; simp at hu; subst hu; rfl) n1.blk (by simp) (fun w2 p2 => ?_)
  have k2 : Ext w w2 := n1.keep.keep p2.keep (by simp)
  ((refine M_assign ?_; (first | refine M_bool rfl ?_ | refine W_move ?_))
   <;> refine W_nil ?_)
  repeat'
    first
      | refine Q_then ?_ | refine C_cond_t rfl ?_ | refine C_cond_f rfl ?_ | refine C_seq ?_ | refine C_block ?_ | refine C_skip ?_ | refine C_ret ?_ | refine C_exit ?_
      | refine Q_then_ret ?_ | refine Q_then_exit ?_ | refine Q_block ?_ | refine Q_block_ret ?_ | refine Q_block_here ?_ | refine Q_block_on rfl ?_ | refine C_scope ?_ | refine C_label ?_ | refine Q_asn ?_ | refine Q_then_pan ?_ | refine Q_block_pan ?_ | refine Q_scope (fun l h => by cases h) ?_
  (refine C_region ?_
   <;> (first | refine M_bool rfl ?_ | refine W_move ?_)
   <;> refine W_nil ?_)
  repeat'
    first
      | refine Q_then ?_ | refine C_cond_t rfl ?_ | refine C_cond_f rfl ?_ | refine C_seq ?_ | refine C_block ?_ | refine C_skip ?_ | refine C_ret ?_ | refine C_exit ?_
      | refine Q_then_ret ?_ | refine Q_then_exit ?_ | refine Q_block ?_ | refine Q_block_ret ?_ | refine Q_block_here ?_ | refine Q_block_on rfl ?_ | refine C_scope ?_ | refine C_label ?_ | refine Q_asn ?_ | refine Q_then_pan ?_ | refine Q_block_pan ?_ | refine Q_scope (fun l h => by cases h) ?_
  exact fin_end0 rfl k2

theorem rec_pan (w : World) (c2 c3 c4 : Nat) (x2 x3 x4 : Value) (e q : Int) (d2 : Blk w c2 23 [x2]) (d3 : Blk w c3 24 [x3]) (d4 : Blk w c4 3 [x4]) (h23 : c2 ≠ c3) (h24 : c2 ≠ c4) (h34 : c3 ≠ c4) :
    CallsDIn Fence.wide 0 Tryd.prog 15 ([] ++ [pt c2, pt c3, pt c4] : List Value).toArray (.panicking [{ v := .iface 39 (.agg #[.int .i64 e, .int .i64 q]), recovered := false }]) w
      (fun en u' w' => match en with | .returned _ => u' = .panicking [{ v := .iface 39 (.agg #[.int .i64 e, .int .i64 q]), recovered := true }] ∧ (Keep [c2, c3, c4] w w' ∧ Blk w' c2 23 [.slice none 0 0] ∧ Blk w' c3 24 [.int .i64 e] ∧ Blk w' c4 3 [.int .i64 q]) | _ => False) := by
  have l2 := d2.lt
  have l3 := d3.lt
  have l4 := d4.lt
  refine callsD_rec (u1 := .panicking [{ v := .iface 39 (.agg #[.int .i64 e, .int .i64 q]), recovered := true }]) (v0 := .iface 39 (.agg #[.int .i64 e, .int .i64 q]))
    (G := fun _ w' => Keep [c2, c3, c4] w w' ∧ Blk w' c2 23 [.slice none 0 0] ∧ Blk w' c3 24 [.int .i64 e] ∧ Blk w' c4 3 [.int .i64 q]) (args := [pt c2, pt c3, pt c4]) Tryd.func15 rfl Tryd.ntmps15 (by simp) (by decide) (by kernel_rfl) (by kernel_rfl) (.inr ⟨_, rfl, rfl, rfl⟩) ?_
  refine W_assert_yes rfl ?_
  ((first | refine M_tuple rfl ?_ | refine W_move ?_)
   <;> refine W_extract rfl rfl ?_
   <;> refine W_extract rfl rfl ?_)
  -- at operation 5: <dst=(some 3) op=(alloc 39) type=0 guard=none>
  refine W_alloc (fun w1 n1 => ?_)
  refine W_store_agg (cs := [.int .i64 e, .int .i64 q]) rfl rfl rfl (by intro u hu; simp at hu; rcases hu with rfl | rfl <;> rfl) n1.blk (by simp) (fun w2 p2 => ?_)
  have k2 : Ext w w2 := n1.keep.keep p2.keep (by simp)
  have b3 : Blk w2 w.heap.size 39 [.int .i64 e, .int .i64 q] := p2.blk
  replace d2 := d2.keep k2 (by simp)
  replace d3 := d3.keep k2 (by simp)
  replace d4 := d4.keep k2 (by simp)
  ((refine M_assign ?_; (first | refine M_bool rfl ?_ | refine W_move ?_))
   <;> refine W_nil ?_)
  repeat'
    first
      | refine Q_then ?_ | refine C_cond_t rfl ?_ | refine C_cond_f rfl ?_ | refine C_seq ?_ | refine C_block ?_ | refine C_skip ?_ | refine C_ret ?_ | refine C_exit ?_
      | refine Q_then_ret ?_ | refine Q_then_exit ?_ | refine Q_block ?_ | refine Q_block_ret ?_ | refine Q_block_here ?_ | refine Q_block_on rfl ?_ | refine C_scope ?_ | refine C_label ?_ | refine Q_asn ?_ | refine Q_then_pan ?_ | refine Q_block_pan ?_ | refine Q_scope (fun l h => by cases h) ?_
  (refine C_region ?_
   <;> (first | refine M_bool rfl ?_ | refine W_move ?_)
   <;> refine W_nil ?_)
  repeat'
    first
      | refine Q_then ?_ | refine C_cond_t rfl ?_ | refine C_cond_f rfl ?_ | refine C_seq ?_ | refine C_block ?_ | refine C_skip ?_ | refine C_ret ?_ | refine C_exit ?_
      | refine Q_then_ret ?_ | refine Q_then_exit ?_ | refine Q_block ?_ | refine Q_block_ret ?_ | refine Q_block_here ?_ | refine Q_block_on rfl ?_ | refine C_scope ?_ | refine C_label ?_ | refine Q_asn ?_ | refine Q_then_pan ?_ | refine Q_block_pan ?_ | refine Q_scope (fun l h => by cases h) ?_
  refine C_drawN (.read 0 (.read 1 (.read 2 (.read 3 (.alt 4 (.alt 5 (.alt 6 .done .stop) .stop) .stop))))) mixed (by kernel_rfl) (fun wd kd ed => ⟨fun W => W.cell? ⟨w.heap.size, 0, none⟩ = some (.int .i64 e) ∧ W.cell? ⟨w.heap.size, 1, none⟩ = some (.int .i64 q), ?_, ?_⟩)
  · exact ⟨(b3.keep kd (by simp)).cell rfl, (b3.keep kd (by simp)).cell rfl⟩
  have fc0 : ∀ W : World, (W.cell? ⟨w.heap.size, 0, none⟩ = some (.int .i64 e) ∧ W.cell? ⟨w.heap.size, 1, none⟩ = some (.int .i64 q)) → W.cell? ⟨w.heap.size, 0, none⟩ = some (.int .i64 e) := fun W h => h.1
  have fc1 : ∀ W : World, (W.cell? ⟨w.heap.size, 0, none⟩ = some (.int .i64 e) ∧ W.cell? ⟨w.heap.size, 1, none⟩ = some (.int .i64 q)) → W.cell? ⟨w.heap.size, 1, none⟩ = some (.int .i64 q) := fun W h => h.2
  replace b3 := b3.keep kd (by simp)
  replace d2 := d2.keep kd (by simp)
  replace d3 := d3.keep kd (by simp)
  replace d4 := d4.keep kd (by simp)
  have k : Keep [c2, c3, c4] w wd := (k2.trans kd).any
  ((apply D_R rfl rfl; (intro W hW; refine W_fieldAddr rfl ?_; exact W_nil ⟨rfl, rfl, rfl⟩))
   <;> (apply D_R rfl rfl; (intro W hW; (first | refine W_load rfl (fc0 W hW) ?_ | refine W_load rfl (fc1 W hW) ?_ | refine W_load_agg rfl (by rfl) (fc0 W hW) ?_ | refine W_load_agg rfl (by rfl) (fc1 W hW) ?_); exact W_nil ⟨rfl, rfl, rfl⟩))
   <;> (apply D_R rfl rfl; (intro W hW; refine W_fieldAddr rfl ?_; exact W_nil ⟨rfl, rfl, rfl⟩))
   <;> (apply D_R rfl rfl; (intro W hW; (first | refine W_load rfl (fc0 W hW) ?_ | refine W_load rfl (fc1 W hW) ?_ | refine W_load_agg rfl (by rfl) (fc0 W hW) ?_ | refine W_load_agg rfl (by rfl) (fc1 W hW) ?_); exact W_nil ⟨rfl, rfl, rfl⟩)))
  -- at place 4, operation 4: <dst=none op=(store 23 (tmp 0) (const (slice none 0 0))) type=0 guard=none>
  refine D_E rfl ?_
  refine W_store rfl rfl rfl d2 (by simp) (fun W p => ?_)
  have bb := p.blk
  replace d3 := d3.keep p.keep (by simp; omega)
  replace d4 := d4.keep p.keep (by simp; omega)
  replace b3 := b3.keep p.keep (by simp; omega)
  replace k := k.trans p.keep (by simp)
  clear d2
  have d2 := bb
  clear bb p
  refine W_nil ⟨_, fun _ h => h, ⟨b3.cell rfl, b3.cell rfl⟩, ?_⟩
  refine D_E rfl ?_
  refine W_store rfl rfl rfl d3 (by simp) (fun W p => ?_)
  have bb := p.blk
  replace d2 := d2.keep p.keep (by simp; omega)
  replace d4 := d4.keep p.keep (by simp; omega)
  replace b3 := b3.keep p.keep (by simp; omega)
  replace k := k.trans p.keep (by simp)
  clear d3
  have d3 := bb
  clear bb p
  refine W_nil ⟨_, fun _ h => h, ⟨b3.cell rfl, b3.cell rfl⟩, ?_⟩
  refine D_E rfl ?_
  refine W_store rfl rfl rfl d4 (by simp) (fun W p => ?_)
  have bb := p.blk
  replace d2 := d2.keep p.keep (by simp; omega)
  replace d3 := d3.keep p.keep (by simp; omega)
  replace b3 := b3.keep p.keep (by simp; omega)
  replace k := k.trans p.keep (by simp)
  clear d4
  have d4 := bb
  clear bb p
  refine W_nil ⟨_, fun _ h => h, ⟨b3.cell rfl, b3.cell rfl⟩, ?_⟩
  refine D_nil ?_
  repeat'
    first
      | refine Q_then ?_ | refine C_cond_t rfl ?_ | refine C_cond_f rfl ?_ | refine C_seq ?_ | refine C_block ?_ | refine C_skip ?_ | refine C_ret ?_ | refine C_exit ?_
      | refine Q_then_ret ?_ | refine Q_then_exit ?_ | refine Q_block ?_ | refine Q_block_ret ?_ | refine Q_block_here ?_ | refine Q_block_on rfl ?_ | refine C_scope ?_ | refine C_label ?_ | refine Q_asn ?_ | refine Q_then_pan ?_ | refine Q_block_pan ?_ | refine Q_scope (fun l h => by cases h) ?_
  exact fin_end0 rfl ⟨k, d2, d3, d4⟩
end Go.Proofs.YteonolnfgppagaaDoor
