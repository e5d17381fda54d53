/- The lexer: the state of a scanner, bytes in a row, a token added. Conditions: none. -/
import Derived.Test.YteonolnfgppagaaDoorX1
namespace Go.Proofs.YteonolnfgppagaaDoor
open Go.RowKit
set_option linter.unusedVariables false

structure Tok where
  kind : Int
  text : List UInt8
  loc : Nat
deriving DecidableEq
def tokC (k : Tok) : List Value := [.int .i64 k.kind, strV k.text, .int .i64 (k.loc : Int)]
def toksC (l : List Tok) : List Value := l.flatMap tokC
theorem toksC_length (l : List Tok) : (toksC l).length = l.length * 3 := by
  induction l with
  | nil => rfl
  | cons k l ih => simp [toksC, tokC] at ih ⊢; omega

abbrev pt (s : Nat) : Value := .pointer (some ⟨s, 0, none⟩)
/-- what a scanner panics with -/
abbrev fail (e : Int) (p : Nat) : List PanicEntry := [{ v := .iface 39 (.agg #[.int .i64 e, .int .i64 (p : Int)]), recovered := false }]

structure St (w0 w : World) (s : Nat) (t : List UInt8) (a : Nat) (ts : List Tok) : Prop where
  keep : Keep [s] w0 w
  lt : s < w0.heap.size
  len : t.length ≤ 6000
  loc : a ≤ t.length
  cnt : ts.length ≤ 2000
  blk : ∃ tv, Blk w s 43 [strV t, .int .i64 (a : Int), tv] ∧ w.ownsRow w0.heap.size 28 3 tv ts.length (toksC ts)

def whileB (p : UInt8 → Bool) (t : List UInt8) (a : Nat) : Nat := a + ((t.drop a).takeWhile p).length
theorem whileB_step {p : UInt8 → Bool} {t : List UInt8} {a : Nat} {c : UInt8} (h : t[a]? = some c) (hp : p c = true) : whileB p t a = whileB p t (a + 1) := by
  obtain ⟨h1, h2⟩ := List.getElem?_eq_some_iff.1 h
  unfold whileB
  rw [List.drop_eq_getElem_cons h1, h2, List.takeWhile_cons_of_pos hp]
  simp; omega
theorem whileB_stop {p : UInt8 → Bool} {t : List UInt8} {a : Nat} {c : UInt8} (h : t[a]? = some c) (hp : p c = false) : whileB p t a = a := by
  obtain ⟨h1, h2⟩ := List.getElem?_eq_some_iff.1 h
  unfold whileB
  rw [List.drop_eq_getElem_cons h1, h2, List.takeWhile_cons_of_neg (by simp [hp])]
  simp
theorem whileB_end {p : UInt8 → Bool} {t : List UInt8} {a : Nat} (h : t.length ≤ a) : whileB p t a = a := by
  unfold whileB
  rw [List.drop_eq_nil_of_le h]; simp
theorem whileB_le {p : UInt8 → Bool} {t : List UInt8} {a : Nat} (h : a ≤ t.length) : whileB p t a ≤ t.length := by
  have := (List.takeWhile_prefix p (l := t.drop a)).length_le
  simp at this
  unfold whileB; omega
theorem whileB_ge (p : UInt8 → Bool) (t : List UInt8) (a : Nat) : a ≤ whileB p t a := by unfold whileB; omega

theorem while_ok {g : FuncId} {p : UInt8 → Bool} [PlainFn Tryd.prog g] (hg : Test g p) (w : World) (s a : Nat) (t : List UInt8) (x y : Value) (hb : Blk w s 43 [strV t, x, y]) (ha : a ≤ t.length) (hl : t.length ≤ 6000) :
    Fn Tryd.prog 24 [pt s, .int .i64 (a : Int), .func (.func g) #[] #[]] w fun v w' => v = .int .i64 (whileB p t a : Int) ∧ w' = w := by
  refine fn_of_wc Tryd.func24 rfl Tryd.ntmps24 (Nat.le_of_ble_eq_true rfl) (by kernel_rfl) ?_
  repeat'
    first
      | refine Q_then ?_ | refine C_cond_t rfl ?_ | refine C_cond_f rfl ?_ | refine C_seq ?_ | refine C_block ?_ | refine C_skip ?_ | refine C_ret ?_ | refine C_exit ?_
      | refine Q_then_ret ?_ | refine Q_then_exit ?_ | refine Q_block ?_ | refine Q_block_ret ?_ | refine Q_block_here ?_ | refine Q_block_on rfl ?_ | refine C_scope ?_ | refine C_label ?_ | refine Q_asn ?_ | refine Q_then_pan ?_ | refine Q_block_pan ?_ | refine Q_scope_pan ?_
  (refine C_region ?_
   <;> (refine M_assign ?_; (first | refine M_int rfl ?_ | refine W_move ?_))
   <;> refine W_nil ?_)
  repeat'
    first
      | refine Q_then ?_ | refine C_cond_t rfl ?_ | refine C_cond_f rfl ?_ | refine C_seq ?_ | refine C_block ?_ | refine C_skip ?_ | refine C_ret ?_ | refine C_exit ?_
      | refine Q_then_ret ?_ | refine Q_then_exit ?_ | refine Q_block ?_ | refine Q_block_ret ?_ | refine Q_block_here ?_ | refine Q_block_on rfl ?_ | refine C_scope ?_ | refine C_label ?_ | refine Q_asn ?_ | refine Q_then_pan ?_ | refine Q_block_pan ?_ | refine Q_scope_pan ?_
  refine C_loop (α := Nat) (fun k => [(0, pt s), (1, .int .i64 (k : Int)), (2, .func (.func g) #[] #[])]) (fun k w1 => k ≤ t.length ∧ whileB p t k = whileB p t a ∧ w1 = w) (fun k => t.length - k) a ⟨rfl, rfl, rfl, trivial⟩ ⟨ha, rfl, rfl⟩ ?_
  rintro k w1 f' ⟨hk, hw, rfl⟩
  repeat'
    first
      | refine Q_then ?_ | refine C_cond_t rfl ?_ | refine C_cond_f rfl ?_ | refine C_seq ?_ | refine C_block ?_ | refine C_skip ?_ | refine C_ret ?_ | refine C_exit ?_
      | refine Q_then_ret ?_ | refine Q_then_exit ?_ | refine Q_block ?_ | refine Q_block_ret ?_ | refine Q_block_here ?_ | refine Q_block_on rfl ?_ | refine C_scope ?_ | refine C_label ?_ | refine Q_asn ?_ | refine Q_then_pan ?_ | refine Q_block_pan ?_ | refine Q_scope_pan ?_
  by_cases hlt : k < t.length
  · have hct : t[k]? = some t[k] := List.getElem?_eq_getElem hlt
    generalize t[k] = c at hct
    (refine C_region ?_
     <;> (first | refine M_int rfl ?_ | refine W_move ?_)
     <;> (first | refine M_ptr rfl ?_ | refine W_move ?_)
     <;> refine W_nilCheck rfl ?_
     <;> refine W_fieldAddr rfl ?_
     <;> (first | refine W_load rfl (Blk.cell (by assumption) (by rfl)) ?_ | refine W_load rfl (by assumption) ?_)
     <;> refine W_slen rfl ?_
     <;> (refine W_lss rfl rfl (fun hc => ?_) (fun hc => ?_) <;> try (exfalso; omega))
     <;> (first | refine M_bool rfl ?_ | refine W_move ?_)
     <;> (first | refine W_no rfl ?_ | (refine W_yes rfl ?_; (first | refine M_func rfl ?_ | refine W_move ?_)))
     <;> (first | refine W_no rfl ?_ | (refine W_yes rfl ?_; (first | refine M_ptr rfl ?_ | refine W_move ?_)))
     <;> (first | refine W_no rfl ?_ | (refine W_yes rfl ?_; refine W_nilCheck rfl ?_))
     <;> (first | refine W_no rfl ?_ | (refine W_yes rfl ?_; refine W_fieldAddr rfl ?_))
     <;> (first | refine W_no rfl ?_ | (refine W_yes rfl ?_; (first | refine W_load rfl (Blk.cell (by assumption) (by rfl)) ?_ | refine W_load rfl (by assumption) ?_)))
     <;> (first | refine W_no rfl ?_ | (refine W_yes rfl ?_; (first | refine M_int rfl ?_ | refine W_move ?_)))
     <;> (first | refine W_no rfl ?_ | (refine W_yes rfl ?_; refine W_sidx rfl rfl (by assumption) ?_)))
    -- at operation 15: <dst=(some 22) op=(call <callee=(value (tmp 15)) args=[(tmp 21)] argTypes=[5]>) type=4 guard=(some [7, true])>
    refine W_yes rfl ?_
    refine W_callv (v1 := []) (v2 := []) (vs := [enc8 c]) rfl (hg c _) rfl ?_
    rintro v w' ⟨rfl, rfl⟩
    cases hp : p c with
    | true =>
      (((first | refine M_pick_t rfl ?_ | refine M_pick_f rfl ?_); (first | refine M_bool rfl ?_ | refine W_move ?_))
       <;> refine W_nil ?_)
      repeat'
        first
          | refine Q_then ?_ | refine C_cond_t rfl ?_ | refine C_cond_f rfl ?_ | refine C_seq ?_ | refine C_block ?_ | refine C_skip ?_ | refine C_ret ?_ | refine C_exit ?_
          | refine Q_then_ret ?_ | refine Q_then_exit ?_ | refine Q_block ?_ | refine Q_block_ret ?_ | refine Q_block_here ?_ | refine Q_block_on rfl ?_ | refine C_scope ?_ | refine C_label ?_ | refine Q_asn ?_ | refine Q_then_pan ?_ | refine Q_block_pan ?_ | refine Q_scope_pan ?_
      (refine C_region ?_
       <;> (first | refine M_int rfl ?_ | refine W_move ?_)
       <;> refine W_add rfl rfl (by first | exact inR_i64 (by omega) (by omega) | exact inR_u8 (by omega) (by omega) | exact inR_u16 (by omega) (by omega)) ?_
       <;> (refine M_assign ?_; (first | refine M_int rfl ?_ | refine W_move ?_))
       <;> refine W_nil ?_)
      repeat'
        first
          | refine Q_then ?_ | refine C_cond_t rfl ?_ | refine C_cond_f rfl ?_ | refine C_seq ?_ | refine C_block ?_ | refine C_skip ?_ | refine C_ret ?_ | refine C_exit ?_
          | refine Q_then_ret ?_ | refine Q_then_exit ?_ | refine Q_block ?_ | refine Q_block_ret ?_ | refine Q_block_here ?_ | refine Q_block_on rfl ?_ | refine C_scope ?_ | refine C_label ?_ | refine Q_asn ?_ | refine Q_then_pan ?_ | refine Q_block_pan ?_ | refine Q_scope_pan ?_
      refine ⟨k + 1, ⟨rfl, ⟨rfl, ?_, rfl, trivial⟩, ⟨by omega, (whileB_step hct hp).symm.trans hw, rfl⟩⟩, by omega⟩
      show Value.int .i64 ((k : Int) + 1) = _
      rw [Int.natCast_add]; rfl
    | false =>
      (((first | refine M_pick_t rfl ?_ | refine M_pick_f rfl ?_); (first | refine M_bool rfl ?_ | refine W_move ?_))
       <;> refine W_nil ?_)
      repeat'
        first
          | refine Q_then ?_ | refine C_cond_t rfl ?_ | refine C_cond_f rfl ?_ | refine C_seq ?_ | refine C_block ?_ | refine C_skip ?_ | refine C_ret ?_ | refine C_exit ?_
          | refine Q_then_ret ?_ | refine Q_then_exit ?_ | refine Q_block ?_ | refine Q_block_ret ?_ | refine Q_block_here ?_ | refine Q_block_on rfl ?_ | refine C_scope ?_ | refine C_label ?_ | refine Q_asn ?_ | refine Q_then_pan ?_ | refine Q_block_pan ?_ | refine Q_scope_pan ?_
      (refine C_region ?_
       <;> (first | refine M_int rfl ?_ | refine W_move ?_)
       <;> (refine M_assign ?_; (first | refine M_int rfl ?_ | refine W_move ?_))
       <;> refine W_nil ?_)
      repeat'
        first
          | refine Q_then ?_ | refine C_cond_t rfl ?_ | refine C_cond_f rfl ?_ | refine C_seq ?_ | refine C_block ?_ | refine C_skip ?_ | refine C_ret ?_ | refine C_exit ?_
          | refine Q_then_ret ?_ | refine Q_then_exit ?_ | refine Q_block ?_ | refine Q_block_ret ?_ | refine Q_block_here ?_ | refine Q_block_on rfl ?_ | refine C_scope ?_ | refine C_label ?_ | refine Q_asn ?_ | refine Q_then_pan ?_ | refine Q_block_pan ?_ | refine Q_scope_pan ?_
      exact fin_ret1 rfl ⟨by rw [← hw, whileB_stop hct hp]; rfl, rfl⟩
  · (refine C_region ?_
     <;> (first | refine M_int rfl ?_ | refine W_move ?_)
     <;> (first | refine M_ptr rfl ?_ | refine W_move ?_)
     <;> refine W_nilCheck rfl ?_
     <;> refine W_fieldAddr rfl ?_
     <;> (first | refine W_load rfl (Blk.cell (by assumption) (by rfl)) ?_ | refine W_load rfl (by assumption) ?_)
     <;> refine W_slen rfl ?_
     <;> (refine W_lss rfl rfl (fun hc => ?_) (fun hc => ?_) <;> try (exfalso; omega))
     <;> (first | refine M_bool rfl ?_ | refine W_move ?_)
     <;> (first | refine W_no rfl ?_ | (refine W_yes rfl ?_; (first | refine M_func rfl ?_ | refine W_move ?_)))
     <;> (first | refine W_no rfl ?_ | (refine W_yes rfl ?_; (first | refine M_ptr rfl ?_ | refine W_move ?_)))
     <;> (first | refine W_no rfl ?_ | (refine W_yes rfl ?_; refine W_nilCheck rfl ?_))
     <;> (first | refine W_no rfl ?_ | (refine W_yes rfl ?_; refine W_fieldAddr rfl ?_))
     <;> (first | refine W_no rfl ?_ | (refine W_yes rfl ?_; (first | refine W_load rfl (Blk.cell (by assumption) (by rfl)) ?_ | refine W_load rfl (by assumption) ?_)))
     <;> (first | refine W_no rfl ?_ | (refine W_yes rfl ?_; (first | refine M_int rfl ?_ | refine W_move ?_)))
     <;> (first | refine W_no rfl ?_ | (refine W_yes rfl ?_; refine W_sidx rfl rfl (by assumption) ?_)))
    -- at operation 15: <dst=(some 22) op=(call <callee=(value (tmp 15)) args=[(tmp 21)] argTypes=[5]>) type=4 guard=(some [7, true])>
    (refine W_no rfl ?_
     <;> ((first | refine M_pick_t rfl ?_ | refine M_pick_f rfl ?_); (first | refine M_bool rfl ?_ | refine W_move ?_))
     <;> refine W_nil ?_)
    repeat'
      first
        | refine Q_then ?_ | refine C_cond_t rfl ?_ | refine C_cond_f rfl ?_ | refine C_seq ?_ | refine C_block ?_ | refine C_skip ?_ | refine C_ret ?_ | refine C_exit ?_
        | refine Q_then_ret ?_ | refine Q_then_exit ?_ | refine Q_block ?_ | refine Q_block_ret ?_ | refine Q_block_here ?_ | refine Q_block_on rfl ?_ | refine C_scope ?_ | refine C_label ?_ | refine Q_asn ?_ | refine Q_then_pan ?_ | refine Q_block_pan ?_ | refine Q_scope_pan ?_
    (refine C_region ?_
     <;> (first | refine M_int rfl ?_ | refine W_move ?_)
     <;> (refine M_assign ?_; (first | refine M_int rfl ?_ | refine W_move ?_))
     <;> refine W_nil ?_)
    repeat'
      first
        | refine Q_then ?_ | refine C_cond_t rfl ?_ | refine C_cond_f rfl ?_ | refine C_seq ?_ | refine C_block ?_ | refine C_skip ?_ | refine C_ret ?_ | refine C_exit ?_
        | refine Q_then_ret ?_ | refine Q_then_exit ?_ | refine Q_block ?_ | refine Q_block_ret ?_ | refine Q_block_here ?_ | refine Q_block_on rfl ?_ | refine C_scope ?_ | refine C_label ?_ | refine Q_asn ?_ | refine Q_then_pan ?_ | refine Q_block_pan ?_ | refine Q_scope_pan ?_
    exact fin_ret1 rfl ⟨by rw [← hw, whileB_end (by omega)]; rfl, rfl⟩

theorem own_in {w : World} {B e size n g : Nat} {v : Value} {xs : List Value} (h : w.ownsRow B e size v n xs) (hg : v.ownBlock = some g) : B ≤ g ∧ g < w.heap.size := by
  rcases h.2 with ⟨rfl, _⟩ | ⟨b, cap, cur, rfl, h1, h2, _⟩
  · cases hg
  · cases hg; exact ⟨h1, (Array.getElem?_eq_some_iff.1 h2).1⟩
theorem made_tok : (madeCells (Value.agg #[.int .i64 0, strV [], .int .i64 0]).cells (1 * 3)).toList = [.int .i64 0, strV [], .int .i64 0] := by
  kernel_rfl
theorem add_ok (w0 w : World) (s a n : Nat) (t : List UInt8) (ts : List Tok) (k : Int) (h : St w0 w s t a ts) (h1 : a ≤ n) (h2 : n ≤ t.length) :
    FnP Tryd.prog 29 [pt s, .int .i64 k, .int .i64 (n : Int)] w (fun v w' => v = .tuple #[] ∧ ts.length < 2000 ∧ St w0 w' s t n (ts ++ [⟨k, (t.take n).drop a, a⟩])) (fun ch w' => ts.length = 2000 ∧ ch = fail 2 a ∧ Keep [s] w0 w') := by
  obtain ⟨hk, hs, hl, ha, hn, tv, hb, ho⟩ := h
  obtain ⟨tp, tc, rfl⟩ : ∃ tp tc, tv = .slice tp ts.length tc := by
    rcases ho.2 with ⟨rfl, h0⟩ | ⟨g, cap, cur, rfl, _⟩
    · exact ⟨none, 0, by rw [h0]⟩
    · exact ⟨_, _, rfl⟩
  refine fnP_of_wc Tryd.func29 rfl Tryd.ntmps29 (Nat.le_of_ble_eq_true rfl) (by kernel_rfl) ?_
  repeat'
    first
      | refine Q_then ?_ | refine C_cond_t rfl ?_ | refine C_cond_f rfl ?_ | refine C_seq ?_ | refine C_block ?_ | refine C_skip ?_ | refine C_ret ?_ | refine C_exit ?_
      | refine Q_then_ret ?_ | refine Q_then_exit ?_ | refine Q_block ?_ | refine Q_block_ret ?_ | refine Q_block_here ?_ | refine Q_block_on rfl ?_ | refine C_scope ?_ | refine C_label ?_ | refine Q_asn ?_ | refine Q_then_pan ?_ | refine Q_block_pan ?_ | refine Q_scope_pan ?_
  (refine C_region ?_
   <;> (first | refine M_ptr rfl ?_ | refine W_move ?_)
   <;> refine W_nilCheck rfl ?_
   <;> refine W_fieldAddr rfl ?_
   <;> (first | refine W_load rfl (Blk.cell (by assumption) (by rfl)) ?_ | refine W_load rfl (by assumption) ?_)
   <;> refine W_len rfl ?_
   <;> (refine W_eql rfl rfl (fun hc => ?_) (fun hc => ?_) <;> try (exfalso; omega))
   <;> refine W_nil ?_)
  · repeat'
      first
        | refine Q_then ?_ | refine C_cond_t rfl ?_ | refine C_cond_f rfl ?_ | refine C_seq ?_ | refine C_block ?_ | refine C_skip ?_ | refine C_ret ?_ | refine C_exit ?_
        | refine Q_then_ret ?_ | refine Q_then_exit ?_ | refine Q_block ?_ | refine Q_block_ret ?_ | refine Q_block_here ?_ | refine Q_block_on rfl ?_ | refine C_scope ?_ | refine C_label ?_ | refine Q_asn ?_ | refine Q_then_pan ?_ | refine Q_block_pan ?_ | refine Q_scope_pan ?_
    (refine C_region ?_
     <;> (first | refine M_ptr rfl ?_ | refine W_move ?_)
     <;> refine W_nilCheck rfl ?_
     <;> refine W_fieldAddr rfl ?_
     <;> (first | refine W_load rfl (Blk.cell (by assumption) (by rfl)) ?_ | refine W_load rfl (by assumption) ?_)
     <;> refine W_build (by rfl) (by rfl) ?_
     <;> refine W_iface ?_
     <;> refine W_panic rfl ?_)
    repeat'
      first
        | refine Q_then ?_ | refine C_cond_t rfl ?_ | refine C_cond_f rfl ?_ | refine C_seq ?_ | refine C_block ?_ | refine C_skip ?_ | refine C_ret ?_ | refine C_exit ?_
        | refine Q_then_ret ?_ | refine Q_then_exit ?_ | refine Q_block ?_ | refine Q_block_ret ?_ | refine Q_block_here ?_ | refine Q_block_on rfl ?_ | refine C_scope ?_ | refine C_label ?_ | refine Q_asn ?_ | refine Q_then_pan ?_ | refine Q_block_pan ?_ | refine Q_scope_pan ?_
    exact fin_pan ⟨by omega, rfl, hk⟩
  · repeat'
      first
        | refine Q_then ?_ | refine C_cond_t rfl ?_ | refine C_cond_f rfl ?_ | refine C_seq ?_ | refine C_block ?_ | refine C_skip ?_ | refine C_ret ?_ | refine C_exit ?_
        | refine Q_then_ret ?_ | refine Q_then_exit ?_ | refine Q_block ?_ | refine Q_block_ret ?_ | refine Q_block_here ?_ | refine Q_block_on rfl ?_ | refine C_scope ?_ | refine C_label ?_ | refine Q_asn ?_ | refine Q_then_pan ?_ | refine Q_block_pan ?_ | refine Q_scope_pan ?_
    refine C_drawN (.read 0 (.read 1 (.read 2 (.read 3 (.read 5 (.read 6 (.read 7 (.read 8 (.read 9 (.read 10 (.read 11 (.read 12 (.read 13 (.read 14 (.read 15 (.read 16 (.read 17 (.read 18 (.read 19 (.read 20 (.alt 4 (.alt 21 (.alt 22 (.read 23 (.read 24 (.alt 25 .done .stop))) .stop) .stop) (.alt 21 (.alt 4 (.alt 22 (.read 23 (.read 24 (.alt 25 .done .stop))) .stop) .stop) .stop)))))))))))))))))))))) mixed (by kernel_rfl) (fun wd kd ed => ⟨fun W => W.cell? ⟨s, 0, none⟩ = some (strV t) ∧ W.cell? ⟨s, 1, none⟩ = some (.int .i64 (a : Int)), ?_, ?_⟩)
    · exact ⟨(hb.keep kd (by simp)).cell rfl, (hb.keep kd (by simp)).cell rfl⟩
    have hbd := hb.keep kd (by simp)
    have hod := ownsRow_ext ho kd
    have fc0 : ∀ W : World, (W.cell? ⟨s, 0, none⟩ = some (strV t) ∧ W.cell? ⟨s, 1, none⟩ = some (.int .i64 (a : Int))) → W.cell? ⟨s, 0, none⟩ = some (strV t) := fun W h => h.1
    have fc1 : ∀ W : World, (W.cell? ⟨s, 0, none⟩ = some (strV t) ∧ W.cell? ⟨s, 1, none⟩ = some (.int .i64 (a : Int))) → W.cell? ⟨s, 1, none⟩ = some (.int .i64 (a : Int)) := fun W h => h.2
    ((apply D_R rfl rfl; (intro W hW; (first | refine M_ptr rfl ?_ | refine W_move ?_); exact W_nil ⟨rfl, rfl, rfl⟩))
     <;> (apply D_R rfl rfl; (intro W hW; (first | refine M_ptr rfl ?_ | refine W_move ?_); exact W_nil ⟨rfl, rfl, rfl⟩))
     <;> (apply D_R rfl rfl; (intro W hW; refine W_nilCheck rfl ?_; exact W_nil ⟨rfl, rfl, rfl⟩))
     <;> (apply D_R rfl rfl; (intro W hW; refine W_fieldAddr rfl ?_; exact W_nil ⟨rfl, rfl, rfl⟩))
     <;> (apply D_R rfl rfl; (intro W hW; (first | refine M_int rfl ?_ | refine W_move ?_); exact W_nil ⟨rfl, rfl, rfl⟩))
     <;> (apply D_R rfl rfl; (intro W hW; (first | refine M_ptr rfl ?_ | refine W_move ?_); exact W_nil ⟨rfl, rfl, rfl⟩))
     <;> (apply D_R rfl rfl; (intro W hW; refine W_nilCheck rfl ?_; exact W_nil ⟨rfl, rfl, rfl⟩))
     <;> (apply D_R rfl rfl; (intro W hW; refine W_fieldAddr rfl ?_; exact W_nil ⟨rfl, rfl, rfl⟩))
     <;> (apply D_R rfl rfl; (intro W hW; (first | refine W_load rfl (fc0 W hW) ?_ | refine W_load rfl (fc1 W hW) ?_ | refine W_load_agg rfl (by rfl) (fc0 W hW) ?_ | refine W_load_agg rfl (by rfl) (fc1 W hW) ?_); exact W_nil ⟨rfl, rfl, rfl⟩))
     <;> (apply D_R rfl rfl; (intro W hW; (first | refine M_ptr rfl ?_ | refine W_move ?_); exact W_nil ⟨rfl, rfl, rfl⟩))
     <;> (apply D_R rfl rfl; (intro W hW; refine W_nilCheck rfl ?_; exact W_nil ⟨rfl, rfl, rfl⟩))
     <;> (apply D_R rfl rfl; (intro W hW; refine W_fieldAddr rfl ?_; exact W_nil ⟨rfl, rfl, rfl⟩))
     <;> (apply D_R rfl rfl; (intro W hW; (first | refine W_load rfl (fc0 W hW) ?_ | refine W_load rfl (fc1 W hW) ?_ | refine W_load_agg rfl (by rfl) (fc0 W hW) ?_ | refine W_load_agg rfl (by rfl) (fc1 W hW) ?_); exact W_nil ⟨rfl, rfl, rfl⟩))
     <;> (apply D_R rfl rfl; (intro W hW; (first | refine M_int rfl ?_ | refine W_move ?_); exact W_nil ⟨rfl, rfl, rfl⟩))
     <;> (apply D_R rfl rfl; (intro W hW; refine W_sslice_lh rfl rfl rfl (by omega) (by omega) ?_; exact W_nil ⟨rfl, rfl, rfl⟩))
     <;> (apply D_R rfl rfl; (intro W hW; (first | refine M_ptr rfl ?_ | refine W_move ?_); exact W_nil ⟨rfl, rfl, rfl⟩))
     <;> (apply D_R rfl rfl; (intro W hW; refine W_nilCheck rfl ?_; exact W_nil ⟨rfl, rfl, rfl⟩))
     <;> (apply D_R rfl rfl; (intro W hW; refine W_fieldAddr rfl ?_; exact W_nil ⟨rfl, rfl, rfl⟩))
     <;> (apply D_R rfl rfl; (intro W hW; (first | refine W_load rfl (fc0 W hW) ?_ | refine W_load rfl (fc1 W hW) ?_ | refine W_load_agg rfl (by rfl) (fc0 W hW) ?_ | refine W_load_agg rfl (by rfl) (fc1 W hW) ?_); exact W_nil ⟨rfl, rfl, rfl⟩))
     <;> (apply D_R rfl rfl; (intro W hW; refine W_build (by rfl) (by rfl) ?_; exact W_nil ⟨rfl, rfl, rfl⟩)))
    -- at place 20, operation 4 of [4, 21]: <dst=(some 22) op=(load 23 (tmp 21)) type=23 guard=none>
    have hcs : tokC ⟨k, (t.take n).drop a, a⟩ = [.int .i64 k, strV ((t.take n).drop a), .int .i64 (a : Int)] := rfl
    refine D_A rfl ?_ (D_E rfl ?_)
    · refine W_load rfl (hbd.cell rfl) ?_
      refine W_nil ⟨_, fun _ h => h, ⟨hbd.cell rfl, hbd.cell rfl⟩, ?_⟩
      refine D_E rfl ?_
      refine W_buildSlice (out := tokC ⟨k, (t.take n).drop a, a⟩) rfl (by omega) (by rw [made_tok]; rfl) (fun w2 n2 => ?_)
      have o2 := n2.own (n := 1) (size := 3) rfl (by unfold maxLen; omega) (Nat.le_refl _)
      have s2 := n2.size
      have hbd2 := hbd.keep n2.keep (by simp)
      refine W_nil ⟨_, fun _ h => h, ⟨hbd2.cell rfl, hbd2.cell rfl⟩, ?_⟩
      refine D_E rfl ?_
      refine W_append (ok := anyB) rfl rfl (ownsRow_ext hod n2.keep) (Sl_of_own o2 fun _ _ => trivial) (by omega) rfl rfl (by intro y hy; simp [tokC] at hy; rcases hy with rfl | rfl | rfl <;> rfl) (by omega) (by omega) (by have := hk.size; have := kd.size; omega) (fun v3 w3 a3 => ?_)
      have hown : ∀ x ∈ (Value.slice tp ts.length tc).ownBlock.toList, w0.heap.size ≤ x := fun x hx => (own_in ho (by simpa using hx)).1
      have hns : s ∉ (Value.slice tp ts.length tc).ownBlock.toList := fun hx => by have := hown s hx; omega
      have hb3 := (hbd.keep n2.keep (by simp)).keep a3.keep hns
      have k3 : Keep [s] w0 w3 := ((hk.ext kd).ext n2.keep).trans a3.keep fun x hx hlt => absurd (hown x hx) (by omega)
      refine W_nil ⟨_, fun _ h => h, ⟨hb3.cell rfl, hb3.cell rfl⟩, ?_⟩
      ((apply D_R rfl rfl; (intro W hW; refine W_nilCheck rfl ?_; exact W_nil ⟨rfl, rfl, rfl⟩))
       <;> (apply D_R rfl rfl; (intro W hW; refine W_fieldAddr rfl ?_; exact W_nil ⟨rfl, rfl, rfl⟩)))
      -- at place 25:4, operation 25: <dst=none op=(store 23 (tmp 42) (tmp 40)) type=0 guard=none>
      refine D_E rfl ?_
      have o3 := a3.own
      obtain ⟨vp, vc, rfl⟩ : ∃ vp vc, v3 = .slice vp (ts.length + 1) vc := by
        rcases o3.2 with ⟨rfl, h0⟩ | ⟨g, cap, cur, rfl, _⟩
        · exact absurd h0 (by omega)
        · exact ⟨_, _, rfl⟩
      refine W_store rfl rfl rfl hb3 (by simp) (fun w4 p4 => ?_)
      have hb4 := p4.blk
      have hns3 : ∀ g, (Value.slice vp (ts.length + 1) vc).ownBlock = some g → g ∉ [s] := fun g hg => by have := (own_in o3 hg).1; simp; omega
      have o4 := ownsRow_keep o3 p4.keep hns3
      have k4 : Keep [s] w0 w4 := k3.trans p4.keep fun x hx _ => hx
      refine W_nil ⟨_, fun _ h => h, ⟨hb4.cell rfl, hb4.cell rfl⟩, ?_⟩
      refine D_nil ?_
      repeat'
        first
          | refine Q_then ?_ | refine C_cond_t rfl ?_ | refine C_cond_f rfl ?_ | refine C_seq ?_ | refine C_block ?_ | refine C_skip ?_ | refine C_ret ?_ | refine C_exit ?_
          | refine Q_then_ret ?_ | refine Q_then_exit ?_ | refine Q_block ?_ | refine Q_block_ret ?_ | refine Q_block_here ?_ | refine Q_block_on rfl ?_ | refine C_scope ?_ | refine C_label ?_ | refine Q_asn ?_ | refine Q_then_pan ?_ | refine Q_block_pan ?_ | refine Q_scope_pan ?_
      (refine C_region ?_
       <;> (first | refine M_ptr rfl ?_ | refine W_move ?_)
       <;> (first | refine M_int rfl ?_ | refine W_move ?_)
       <;> refine W_nilCheck rfl ?_
       <;> refine W_fieldAddr rfl ?_)
      -- at operation 4: <dst=none op=(store 3 (tmp 46) (tmp 44)) type=0 guard=none>
      refine W_store rfl rfl rfl hb4 (by simp) (fun w5 p5 => ?_)
      have hb5 := p5.blk
      have o5 := ownsRow_keep o4 p5.keep hns3
      have k5 : Keep [s] w0 w5 := k4.trans p5.keep fun x hx _ => hx
      refine W_nil ?_
      repeat'
        first
          | refine Q_then ?_ | refine C_cond_t rfl ?_ | refine C_cond_f rfl ?_ | refine C_seq ?_ | refine C_block ?_ | refine C_skip ?_ | refine C_ret ?_ | refine C_exit ?_
          | refine Q_then_ret ?_ | refine Q_then_exit ?_ | refine Q_block ?_ | refine Q_block_ret ?_ | refine Q_block_here ?_ | refine Q_block_on rfl ?_ | refine C_scope ?_ | refine C_label ?_ | refine Q_asn ?_ | refine Q_then_pan ?_ | refine Q_block_pan ?_ | refine Q_scope_pan ?_
      have o6 : w5.ownsRow w0.heap.size 28 3 (.slice vp (ts.length + 1) vc) (ts ++ [Tok.mk k ((t.take n).drop a) a]).length (toksC (ts ++ [Tok.mk k ((t.take n).drop a) a])) := by
        have e : toksC (ts ++ [Tok.mk k ((t.take n).drop a) a]) = toksC ts ++ tokC (Tok.mk k ((t.take n).drop a) a) := by simp [toksC]
        rw [e]; simpa using o5
      exact fin_end0 rfl ⟨rfl, by omega, ⟨k5, hs, hl, h2, by simp; omega, _, hb5, o6⟩⟩
    · refine W_buildSlice (out := tokC ⟨k, (t.take n).drop a, a⟩) rfl (by omega) (by rw [made_tok]; rfl) (fun w2 n2 => ?_)
      have o2 := n2.own (n := 1) (size := 3) rfl (by unfold maxLen; omega) (Nat.le_refl _)
      have s2 := n2.size
      have hbd2 := hbd.keep n2.keep (by simp)
      refine W_nil ⟨_, fun _ h => h, ⟨hbd2.cell rfl, hbd2.cell rfl⟩, ?_⟩
      refine D_E rfl ?_
      refine W_load rfl (hbd2.cell rfl) ?_
      refine W_nil ⟨_, fun _ h => h, ⟨hbd2.cell rfl, hbd2.cell rfl⟩, ?_⟩
      refine D_E rfl ?_
      refine W_append (ok := anyB) rfl rfl (ownsRow_ext hod n2.keep) (Sl_of_own o2 fun _ _ => trivial) (by omega) rfl rfl (by intro y hy; simp [tokC] at hy; rcases hy with rfl | rfl | rfl <;> rfl) (by omega) (by omega) (by have := hk.size; have := kd.size; omega) (fun v3 w3 a3 => ?_)
      have hown : ∀ x ∈ (Value.slice tp ts.length tc).ownBlock.toList, w0.heap.size ≤ x := fun x hx => (own_in ho (by simpa using hx)).1
      have hns : s ∉ (Value.slice tp ts.length tc).ownBlock.toList := fun hx => by have := hown s hx; omega
      have hb3 := (hbd.keep n2.keep (by simp)).keep a3.keep hns
      have k3 : Keep [s] w0 w3 := ((hk.ext kd).ext n2.keep).trans a3.keep fun x hx hlt => absurd (hown x hx) (by omega)
      refine W_nil ⟨_, fun _ h => h, ⟨hb3.cell rfl, hb3.cell rfl⟩, ?_⟩
      ((apply D_R rfl rfl; (intro W hW; refine W_nilCheck rfl ?_; exact W_nil ⟨rfl, rfl, rfl⟩))
       <;> (apply D_R rfl rfl; (intro W hW; refine W_fieldAddr rfl ?_; exact W_nil ⟨rfl, rfl, rfl⟩)))
      -- at place 25:21, operation 25: <dst=none op=(store 23 (tmp 42) (tmp 40)) type=0 guard=none>
      refine D_E rfl ?_
      have o3 := a3.own
      obtain ⟨vp, vc, rfl⟩ : ∃ vp vc, v3 = .slice vp (ts.length + 1) vc := by
        rcases o3.2 with ⟨rfl, h0⟩ | ⟨g, cap, cur, rfl, _⟩
        · exact absurd h0 (by omega)
        · exact ⟨_, _, rfl⟩
      refine W_store rfl rfl rfl hb3 (by simp) (fun w4 p4 => ?_)
      have hb4 := p4.blk
      have hns3 : ∀ g, (Value.slice vp (ts.length + 1) vc).ownBlock = some g → g ∉ [s] := fun g hg => by have := (own_in o3 hg).1; simp; omega
      have o4 := ownsRow_keep o3 p4.keep hns3
      have k4 : Keep [s] w0 w4 := k3.trans p4.keep fun x hx _ => hx
      refine W_nil ⟨_, fun _ h => h, ⟨hb4.cell rfl, hb4.cell rfl⟩, ?_⟩
      refine D_nil ?_
      repeat'
        first
          | refine Q_then ?_ | refine C_cond_t rfl ?_ | refine C_cond_f rfl ?_ | refine C_seq ?_ | refine C_block ?_ | refine C_skip ?_ | refine C_ret ?_ | refine C_exit ?_
          | refine Q_then_ret ?_ | refine Q_then_exit ?_ | refine Q_block ?_ | refine Q_block_ret ?_ | refine Q_block_here ?_ | refine Q_block_on rfl ?_ | refine C_scope ?_ | refine C_label ?_ | refine Q_asn ?_ | refine Q_then_pan ?_ | refine Q_block_pan ?_ | refine Q_scope_pan ?_
      (refine C_region ?_
       <;> (first | refine M_ptr rfl ?_ | refine W_move ?_)
       <;> (first | refine M_int rfl ?_ | refine W_move ?_)
       <;> refine W_nilCheck rfl ?_
       <;> refine W_fieldAddr rfl ?_)
      -- at operation 4: <dst=none op=(store 3 (tmp 46) (tmp 44)) type=0 guard=none>
      refine W_store rfl rfl rfl hb4 (by simp) (fun w5 p5 => ?_)
      have hb5 := p5.blk
      have o5 := ownsRow_keep o4 p5.keep hns3
      have k5 : Keep [s] w0 w5 := k4.trans p5.keep fun x hx _ => hx
      refine W_nil ?_
      repeat'
        first
          | refine Q_then ?_ | refine C_cond_t rfl ?_ | refine C_cond_f rfl ?_ | refine C_seq ?_ | refine C_block ?_ | refine C_skip ?_ | refine C_ret ?_ | refine C_exit ?_
          | refine Q_then_ret ?_ | refine Q_then_exit ?_ | refine Q_block ?_ | refine Q_block_ret ?_ | refine Q_block_here ?_ | refine Q_block_on rfl ?_ | refine C_scope ?_ | refine C_label ?_ | refine Q_asn ?_ | refine Q_then_pan ?_ | refine Q_block_pan ?_ | refine Q_scope_pan ?_
      have o6 : w5.ownsRow w0.heap.size 28 3 (.slice vp (ts.length + 1) vc) (ts ++ [Tok.mk k ((t.take n).drop a) a]).length (toksC (ts ++ [Tok.mk k ((t.take n).drop a) a])) := by
        have e : toksC (ts ++ [Tok.mk k ((t.take n).drop a) a]) = toksC ts ++ tokC (Tok.mk k ((t.take n).drop a) a) := by simp [toksC]
        rw [e]; simpa using o5
      exact fin_end0 rfl ⟨rfl, by omega, ⟨k5, hs, hl, h2, by simp; omega, _, hb5, o6⟩⟩
end Go.Proofs.YteonolnfgppagaaDoor
