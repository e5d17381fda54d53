/- The lexer's laws: gap, at, Alike. Conditions: none. -/
import Derived.Test.YteonolnfgppagaaDoorXG3
import Derived.Test.YteonolnfgppagaaDoorXQ6
namespace Go.Proofs.YteonolnfgppagaaDoor
open Go.RowKit
set_option linter.unusedVariables false

theorem lawGap_ok (c : UInt8) (w : World) : Fn Tryd.prog 11 [.int .u8 (c.toNat : Int)] w fun v w' => ∃ g, g ∈ gapsL ∧ v = strV g ∧ Ext w w' := by
  refine fn_of_wc Tryd.func11 rfl Tryd.ntmps11 (Nat.le_of_ble_eq_true rfl) (by kernel_rfl) ?_
  repeat'
    first
      | refine Q_then ?_ | refine C_cond_t rfl ?_ | refine C_cond_f rfl ?_ | refine C_seq ?_ | refine C_block ?_ | refine C_skip ?_ | refine C_ret ?_ | refine C_exit ?_
      | refine Q_then_ret ?_ | refine Q_then_exit ?_ | refine Q_block ?_ | refine Q_block_ret ?_ | refine Q_block_here ?_ | refine Q_block_on rfl ?_ | refine C_scope ?_ | refine C_label ?_ | refine Q_asn ?_ | refine Q_then_pan ?_ | refine Q_block_pan ?_ | refine Q_scope (fun l h => by cases h) ?_
  (refine C_region ?_
   <;> (refine M_assign ?_; (first | refine M_str rfl ?_ | refine W_move ?_))
   <;> refine W_nil ?_)
  repeat'
    first
      | refine Q_then ?_ | refine C_cond_t rfl ?_ | refine C_cond_f rfl ?_ | refine C_seq ?_ | refine C_block ?_ | refine C_skip ?_ | refine C_ret ?_ | refine C_exit ?_
      | refine Q_then_ret ?_ | refine Q_then_exit ?_ | refine Q_block ?_ | refine Q_block_ret ?_ | refine Q_block_here ?_ | refine Q_block_on rfl ?_ | refine C_scope ?_ | refine C_label ?_ | refine Q_asn ?_ | refine Q_then_pan ?_ | refine Q_block_pan ?_ | refine Q_scope (fun l h => by cases h) ?_
  (refine C_region ?_)
  -- at operation 0: <dst=(some 4) op=(buildSlice 45 5 [[0, (const (string <data=[32]>))], [1, (const (string <data=[9, 10]>))], [2, (const (string <data=[37, 32, 120, 10]>))], [3, (const (string <data=[32, 32, 13]>))], [4, (const (string <data=[10, 37, 10, 32]>))]]) type=45 guard=none>
  refine W_buildSlice1 (out := gapsL.map strV) rfl (by omega) rfl rfl (fun w2 n2 => ?_)
  have b2 := n2.blk
  ((refine M_assign ?_; (first | refine M_slice rfl ?_ | refine W_move ?_))
   <;> refine W_nil ?_)
  repeat'
    first
      | refine Q_then ?_ | refine C_cond_t rfl ?_ | refine C_cond_f rfl ?_ | refine C_seq ?_ | refine C_block ?_ | refine C_skip ?_ | refine C_ret ?_ | refine C_exit ?_
      | refine Q_then_ret ?_ | refine Q_then_exit ?_ | refine Q_block ?_ | refine Q_block_ret ?_ | refine Q_block_here ?_ | refine Q_block_on rfl ?_ | refine C_scope ?_ | refine C_label ?_ | refine Q_asn ?_ | refine Q_then_pan ?_ | refine Q_block_pan ?_ | refine Q_scope (fun l h => by cases h) ?_
  have hcb := c.toNat_lt
  (refine C_region ?_
   <;> (first | refine M_slice rfl ?_ | refine W_move ?_)
   <;> (first | refine M_int rfl ?_ | refine W_move ?_)
   <;> refine W_conv rfl (by first | exact inR_i64 (by omega) (by omega) | exact inR_u8 (by omega) (by omega) | exact inR_u16 (by omega) (by omega)) ?_
   <;> (first | refine M_slice rfl ?_ | refine W_move ?_)
   <;> refine W_len rfl ?_
   <;> refine W_rem rfl rfl (by omega) (by omega) ?_)
  have ek : (c.toNat : Int) % ((5 : Nat) : Int) = ((c.toNat % 5 : Nat) : Int) := (Int.natCast_emod _ _).symm
  rw [ek]
  have hk : c.toNat % 5 < 5 := Nat.mod_lt _ (by omega)
  generalize c.toNat % 5 = k at hk
  obtain ⟨g, hg⟩ : ∃ g, gapsL[k]? = some g := ⟨_, List.getElem?_eq_getElem (by show k < 5; exact hk)⟩
  have hb : w2.cell? ⟨w.heap.size, 0 + k, none⟩ = some (strV g) := by
    rw [Nat.zero_add]; exact b2.cell (by rw [List.getElem?_map, hg]; rfl)
  ((first | refine W_idx1 rfl rfl rfl (by omega) ?_ | refine W_idx rfl rfl rfl (by omega) ?_ | refine W_indexAddr rfl rfl (by omega) (by omega) ?_)
   <;> (first | refine W_load rfl (Blk.cell (by assumption) (by rfl)) ?_ | refine W_load rfl (by assumption) ?_)
   <;> (refine M_assign ?_; (first | refine M_str rfl ?_ | refine W_move ?_))
   <;> refine W_nil ?_)
  repeat'
    first
      | refine Q_then ?_ | refine C_cond_t rfl ?_ | refine C_cond_f rfl ?_ | refine C_seq ?_ | refine C_block ?_ | refine C_skip ?_ | refine C_ret ?_ | refine C_exit ?_
      | refine Q_then_ret ?_ | refine Q_then_exit ?_ | refine Q_block ?_ | refine Q_block_ret ?_ | refine Q_block_here ?_ | refine Q_block_on rfl ?_ | refine C_scope ?_ | refine C_label ?_ | refine Q_asn ?_ | refine Q_then_pan ?_ | refine Q_block_pan ?_ | refine Q_scope (fun l h => by cases h) ?_
  exact fin_ret1 rfl ⟨g, List.mem_of_getElem? hg, rfl, n2.keep⟩

theorem lawAt_ok (v : Value) (l : List UInt8) (i : Nat) (w : World) (h : Sl anyB w v l.length (cells8 l)) : Fn Tryd.prog 12 [v, .int .i64 (i : Int)] w fun v w' => ∃ c : UInt8, v = enc8 c ∧ w' = w := by
  obtain ⟨a, cap, rfl, h1, h2, h3, h4⟩ := h
  refine fn_of_wc Tryd.func12 rfl Tryd.ntmps12 (Nat.le_of_ble_eq_true rfl) (by kernel_rfl) ?_
  repeat'
    first
      | refine Q_then ?_ | refine C_cond_t rfl ?_ | refine C_cond_f rfl ?_ | refine C_seq ?_ | refine C_block ?_ | refine C_skip ?_ | refine C_ret ?_ | refine C_exit ?_
      | refine Q_then_ret ?_ | refine Q_then_exit ?_ | refine Q_block ?_ | refine Q_block_ret ?_ | refine Q_block_here ?_ | refine Q_block_on rfl ?_ | refine C_scope ?_ | refine C_label ?_ | refine Q_asn ?_ | refine Q_then_pan ?_ | refine Q_block_pan ?_ | refine Q_scope (fun l h => by cases h) ?_
  (refine C_region ?_
   <;> (refine M_assign ?_; (first | refine M_int rfl ?_ | refine W_move ?_))
   <;> refine W_nil ?_)
  repeat'
    first
      | refine Q_then ?_ | refine C_cond_t rfl ?_ | refine C_cond_f rfl ?_ | refine C_seq ?_ | refine C_block ?_ | refine C_skip ?_ | refine C_ret ?_ | refine C_exit ?_
      | refine Q_then_ret ?_ | refine Q_then_exit ?_ | refine Q_block ?_ | refine Q_block_ret ?_ | refine Q_block_here ?_ | refine Q_block_on rfl ?_ | refine C_scope ?_ | refine C_label ?_ | refine Q_asn ?_ | refine Q_then_pan ?_ | refine Q_block_pan ?_ | refine Q_scope (fun l h => by cases h) ?_
  by_cases h0 : l.length = 0
  · (refine C_region ?_
     <;> (first | refine M_slice rfl ?_ | refine W_move ?_)
     <;> refine W_len rfl ?_
     <;> (refine W_eql rfl rfl (fun hc => ?_) (fun hc => ?_) <;> try (exfalso; omega))
     <;> refine W_nil ?_)
    repeat'
      first
        | refine Q_then ?_ | refine C_cond_t rfl ?_ | refine C_cond_f rfl ?_ | refine C_seq ?_ | refine C_block ?_ | refine C_skip ?_ | refine C_ret ?_ | refine C_exit ?_
        | refine Q_then_ret ?_ | refine Q_then_exit ?_ | refine Q_block ?_ | refine Q_block_ret ?_ | refine Q_block_here ?_ | refine Q_block_on rfl ?_ | refine C_scope ?_ | refine C_label ?_ | refine Q_asn ?_ | refine Q_then_pan ?_ | refine Q_block_pan ?_ | refine Q_scope (fun l h => by cases h) ?_
    (refine C_region ?_
     <;> (refine M_assign ?_; (first | refine M_int rfl ?_ | refine W_move ?_))
     <;> refine W_nil ?_)
    repeat'
      first
        | refine Q_then ?_ | refine C_cond_t rfl ?_ | refine C_cond_f rfl ?_ | refine C_seq ?_ | refine C_block ?_ | refine C_skip ?_ | refine C_ret ?_ | refine C_exit ?_
        | refine Q_then_ret ?_ | refine Q_then_exit ?_ | refine Q_block ?_ | refine Q_block_ret ?_ | refine Q_block_here ?_ | refine Q_block_on rfl ?_ | refine C_scope ?_ | refine C_label ?_ | refine Q_asn ?_ | refine Q_then_pan ?_ | refine Q_block_pan ?_ | refine Q_scope (fun l h => by cases h) ?_
    exact fin_ret1 rfl ⟨0, rfl, rfl⟩
  · (refine C_region ?_
     <;> (first | refine M_slice rfl ?_ | refine W_move ?_)
     <;> refine W_len rfl ?_
     <;> (refine W_eql rfl rfl (fun hc => ?_) (fun hc => ?_) <;> try (exfalso; omega))
     <;> refine W_nil ?_)
    repeat'
      first
        | refine Q_then ?_ | refine C_cond_t rfl ?_ | refine C_cond_f rfl ?_ | refine C_seq ?_ | refine C_block ?_ | refine C_skip ?_ | refine C_ret ?_ | refine C_exit ?_
        | refine Q_then_ret ?_ | refine Q_then_exit ?_ | refine Q_block ?_ | refine Q_block_ret ?_ | refine Q_block_here ?_ | refine Q_block_on rfl ?_ | refine C_scope ?_ | refine C_label ?_ | refine Q_asn ?_ | refine Q_then_pan ?_ | refine Q_block_pan ?_ | refine Q_scope (fun l h => by cases h) ?_
    (refine C_region ?_
     <;> (first | refine M_slice rfl ?_ | refine W_move ?_)
     <;> (first | refine M_int rfl ?_ | refine W_move ?_)
     <;> (first | refine M_slice rfl ?_ | refine W_move ?_)
     <;> refine W_len rfl ?_
     <;> refine W_rem rfl rfl (by omega) (by omega) ?_)
    have ek : (i : Int) % (l.length : Int) = ((i % l.length : Nat) : Int) := (Int.natCast_emod _ _).symm
    rw [ek]
    have hk : i % l.length < l.length := Nat.mod_lt _ (by omega)
    generalize i % l.length = k at hk
    obtain ⟨b, o, rfl, _, hc⟩ := h4.resolve_left h0
    have hb := hc k _ (cells8_get hk)
    ((first | refine W_idx1 rfl rfl rfl (by omega) ?_ | refine W_idx rfl rfl rfl (by omega) ?_ | refine W_indexAddr rfl rfl (by omega) (by omega) ?_)
     <;> (first | refine W_load rfl (Blk.cell (by assumption) (by rfl)) ?_ | refine W_load rfl (by assumption) ?_)
     <;> (refine M_assign ?_; (first | refine M_int rfl ?_ | refine W_move ?_))
     <;> refine W_nil ?_)
    repeat'
      first
        | refine Q_then ?_ | refine C_cond_t rfl ?_ | refine C_cond_f rfl ?_ | refine C_seq ?_ | refine C_block ?_ | refine C_skip ?_ | refine C_ret ?_ | refine C_exit ?_
        | refine Q_then_ret ?_ | refine Q_then_exit ?_ | refine Q_block ?_ | refine Q_block_ret ?_ | refine Q_block_here ?_ | refine Q_block_on rfl ?_ | refine C_scope ?_ | refine C_label ?_ | refine Q_asn ?_ | refine Q_then_pan ?_ | refine Q_block_pan ?_ | refine Q_scope (fun l h => by cases h) ?_
    exact fin_ret1 rfl ⟨_, rfl, rfl⟩

theorem alike_ok (w : World) (a c a' c' : Option Addr × Nat) (ts us : List Tok) (h : Toks w a.1 a.2 ts) (h' : Toks w a'.1 a'.2 us) (e : ts.map bare = us.map bare) :
    Fn Tryd.prog 13 [.slice a.1 ts.length a.2, .slice a'.1 us.length a'.2] w fun v w' => v = .bool true ∧ Ext w w' := by
  obtain ⟨a, ca⟩ := a
  obtain ⟨a', ca'⟩ := a'
  simp only at h h' ⊢
  have hmx : ts.length ≤ 9223372036854775807 := by obtain ⟨_, _, hv, h1, h2, _⟩ := id h; cases hv; omega
  have hlen : ts.length = us.length := by have := congrArg List.length e; simpa using this
  refine fn_of_wc Tryd.func13 rfl Tryd.ntmps13 (Nat.le_of_ble_eq_true rfl) (by kernel_rfl) ?_
  repeat'
    first
      | refine Q_then ?_ | refine C_cond_t rfl ?_ | refine C_cond_f rfl ?_ | refine C_seq ?_ | refine C_block ?_ | refine C_skip ?_ | refine C_ret ?_ | refine C_exit ?_
      | refine Q_then_ret ?_ | refine Q_then_exit ?_ | refine Q_block ?_ | refine Q_block_ret ?_ | refine Q_block_here ?_ | refine Q_block_on rfl ?_ | refine C_scope ?_ | refine C_label ?_ | refine Q_asn ?_ | refine Q_then_pan ?_ | refine Q_block_pan ?_ | refine Q_scope (fun l h => by cases h) ?_
  (refine C_region ?_
   <;> (refine M_assign ?_; (first | refine M_bool rfl ?_ | refine W_move ?_))
   <;> refine W_nil ?_)
  repeat'
    first
      | refine Q_then ?_ | refine C_cond_t rfl ?_ | refine C_cond_f rfl ?_ | refine C_seq ?_ | refine C_block ?_ | refine C_skip ?_ | refine C_ret ?_ | refine C_exit ?_
      | refine Q_then_ret ?_ | refine Q_then_exit ?_ | refine Q_block ?_ | refine Q_block_ret ?_ | refine Q_block_here ?_ | refine Q_block_on rfl ?_ | refine C_scope ?_ | refine C_label ?_ | refine Q_asn ?_ | refine Q_then_pan ?_ | refine Q_block_pan ?_ | refine Q_scope (fun l h => by cases h) ?_
  (refine C_region ?_
   <;> (first | refine M_slice rfl ?_ | refine W_move ?_)
   <;> refine W_len rfl ?_
   <;> (first | refine M_slice rfl ?_ | refine W_move ?_)
   <;> refine W_len rfl ?_
   <;> (refine W_neq rfl rfl (fun hc => ?_) (fun hc => ?_) <;> try (exfalso; omega))
   <;> refine W_nil ?_)
  repeat'
    first
      | refine Q_then ?_ | refine C_cond_t rfl ?_ | refine C_cond_f rfl ?_ | refine C_seq ?_ | refine C_block ?_ | refine C_skip ?_ | refine C_ret ?_ | refine C_exit ?_
      | refine Q_then_ret ?_ | refine Q_then_exit ?_ | refine Q_block ?_ | refine Q_block_ret ?_ | refine Q_block_here ?_ | refine Q_block_on rfl ?_ | refine C_scope ?_ | refine C_label ?_ | refine Q_asn ?_ | refine Q_then_pan ?_ | refine Q_block_pan ?_ | refine Q_scope (fun l h => by cases h) ?_
  (refine C_region ?_
   <;> (refine M_assign ?_; (first | refine M_int rfl ?_ | refine W_move ?_))
   <;> refine W_nil ?_)
  repeat'
    first
      | refine Q_then ?_ | refine C_cond_t rfl ?_ | refine C_cond_f rfl ?_ | refine C_seq ?_ | refine C_block ?_ | refine C_skip ?_ | refine C_ret ?_ | refine C_exit ?_
      | refine Q_then_ret ?_ | refine Q_then_exit ?_ | refine Q_block ?_ | refine Q_block_ret ?_ | refine Q_block_here ?_ | refine Q_block_on rfl ?_ | refine C_scope ?_ | refine C_label ?_ | refine Q_asn ?_ | refine Q_then_pan ?_ | refine Q_block_pan ?_ | refine Q_scope (fun l h => by cases h) ?_
  refine C_loop (α := Nat) (fun k => [(0, .slice a ts.length ca), (1, .slice a' us.length ca'), (5, .int .i64 (k : Int))]) (fun k w3 => k ≤ ts.length ∧ Ext w w3) (fun k => ts.length - k) 0 ⟨rfl, rfl, rfl, trivial⟩ ⟨by omega, Ext.refl _⟩ ?_
  rintro k w3 f' ⟨hk, k3⟩
  repeat'
    first
      | refine Q_then ?_ | refine C_cond_t rfl ?_ | refine C_cond_f rfl ?_ | refine C_seq ?_ | refine C_block ?_ | refine C_skip ?_ | refine C_ret ?_ | refine C_exit ?_
      | refine Q_then_ret ?_ | refine Q_then_exit ?_ | refine Q_block ?_ | refine Q_block_ret ?_ | refine Q_block_here ?_ | refine Q_block_on rfl ?_ | refine C_scope ?_ | refine C_label ?_ | refine Q_asn ?_ | refine Q_then_pan ?_ | refine Q_block_pan ?_ | refine Q_scope (fun l h => by cases h) ?_
  by_cases hlt : k < ts.length
  · obtain ⟨x, hx⟩ : ∃ x, ts[k]? = some x := ⟨_, List.getElem?_eq_getElem hlt⟩
    obtain ⟨y, hy⟩ : ∃ y, us[k]? = some y := ⟨_, List.getElem?_eq_getElem (by omega)⟩
    have exy : bare x = bare y := by
      have := congrArg (·[k]?) e
      simpa [hx, hy] using this
    have ek : x.kind = y.kind := congrArg Prod.fst exy
    have et : x.text = y.text := congrArg Prod.snd exy
    (refine C_region ?_
     <;> (first | refine M_int rfl ?_ | refine W_move ?_)
     <;> (first | refine M_slice rfl ?_ | refine W_move ?_)
     <;> refine W_len rfl ?_
     <;> (refine W_lss rfl rfl (fun hc => ?_) (fun hc => ?_) <;> try (exfalso; omega))
     <;> refine W_nil ?_)
    repeat'
      first
        | refine Q_then ?_ | refine C_cond_t rfl ?_ | refine C_cond_f rfl ?_ | refine C_seq ?_ | refine C_block ?_ | refine C_skip ?_ | refine C_ret ?_ | refine C_exit ?_
        | refine Q_then_ret ?_ | refine Q_then_exit ?_ | refine Q_block ?_ | refine Q_block_ret ?_ | refine Q_block_here ?_ | refine Q_block_on rfl ?_ | refine C_scope ?_ | refine C_label ?_ | refine Q_asn ?_ | refine Q_then_pan ?_ | refine Q_block_pan ?_ | refine Q_scope (fun l h => by cases h) ?_
    refine C_drawN (.read 0 (.read 1 (.read 2 (.read 3 (.read 4 (.read 5 (.read 6 (.read 7 (.read 8 (.read 9 (.read 10 (.read 11 (.read 12 (.read 13 (.read 14 (.read 15 (.read 16 (.read 17 (.read 18 (.read 19 (.read 20 (.read 21 (.read 22 (.read 23 .done)))))))))))))))))))))))) mixed (by kernel_rfl) (fun wd kd ed => ⟨fun W => W = wd, ?_, ?_⟩)
    · rfl
    obtain ⟨b, o, rfl, hc⟩ := ((h.ext k3).ext kd).at hx
    obtain ⟨b', o', rfl, hc'⟩ := ((h'.ext k3).ext kd).at hy
    have hc0 := hc 0 _ rfl
    have hc1 := hc 1 _ rfl
    have hd0 := hc' 0 _ rfl
    have hd1 := hc' 1 _ rfl
    ((apply D_R rfl rfl; (intro W hW; subst hW; (first | refine M_slice rfl ?_ | refine W_move ?_); exact W_nil ⟨rfl, rfl, rfl⟩))
     <;> (apply D_R rfl rfl; (intro W hW; subst hW; (first | refine M_int rfl ?_ | refine W_move ?_); exact W_nil ⟨rfl, rfl, rfl⟩))
     <;> (apply D_R rfl rfl; (intro W hW; subst hW; (first | refine W_idx1 rfl rfl rfl (by omega) ?_ | refine W_idx rfl rfl rfl (by omega) ?_ | refine W_indexAddr rfl rfl (by omega) (by omega) ?_); exact W_nil ⟨rfl, rfl, rfl⟩))
     <;> (apply D_R rfl rfl; (intro W hW; subst hW; refine W_fieldAddr rfl ?_; exact W_nil ⟨rfl, rfl, rfl⟩))
     <;> (apply D_R rfl rfl; (intro W hW; subst hW; (first | refine W_load rfl (Blk.cell (by assumption) (by rfl)) ?_ | refine W_load rfl (by assumption) ?_); exact W_nil ⟨rfl, rfl, rfl⟩))
     <;> (apply D_R rfl rfl; (intro W hW; subst hW; (first | refine M_slice rfl ?_ | refine W_move ?_); exact W_nil ⟨rfl, rfl, rfl⟩))
     <;> (apply D_R rfl rfl; (intro W hW; subst hW; (first | refine M_int rfl ?_ | refine W_move ?_); exact W_nil ⟨rfl, rfl, rfl⟩))
     <;> (apply D_R rfl rfl; (intro W hW; subst hW; (first | refine W_idx1 rfl rfl rfl (by omega) ?_ | refine W_idx rfl rfl rfl (by omega) ?_ | refine W_indexAddr rfl rfl (by omega) (by omega) ?_); exact W_nil ⟨rfl, rfl, rfl⟩))
     <;> (apply D_R rfl rfl; (intro W hW; subst hW; refine W_fieldAddr rfl ?_; exact W_nil ⟨rfl, rfl, rfl⟩))
     <;> (apply D_R rfl rfl; (intro W hW; subst hW; (first | refine W_load rfl (Blk.cell (by assumption) (by rfl)) ?_ | refine W_load rfl (by assumption) ?_); exact W_nil ⟨rfl, rfl, rfl⟩))
     <;> (refine D_neq rfl rfl rfl rfl (fun hc => ?_) (fun hc => ?_) <;> try (exfalso; omega))
     <;> (apply D_R rfl rfl; (intro W hW; subst hW; (first | refine M_bool rfl ?_ | refine W_move ?_); exact W_nil ⟨rfl, rfl, rfl⟩))
     <;> (first | refine D_skip rfl rfl rfl rfl ?_ | (apply D_R rfl rfl; (intro W hW; refine W_no rfl ?_; exact W_nil ⟨rfl, rfl, rfl⟩)) | (apply D_R rfl rfl; (intro W hW; subst hW; (refine W_yes rfl ?_; (first | refine M_slice rfl ?_ | refine W_move ?_)); exact W_nil ⟨rfl, rfl, rfl⟩)))
     <;> (first | refine D_skip rfl rfl rfl rfl ?_ | (apply D_R rfl rfl; (intro W hW; refine W_no rfl ?_; exact W_nil ⟨rfl, rfl, rfl⟩)) | (apply D_R rfl rfl; (intro W hW; subst hW; (refine W_yes rfl ?_; (first | refine M_int rfl ?_ | refine W_move ?_)); exact W_nil ⟨rfl, rfl, rfl⟩)))
     <;> (first | refine D_skip rfl rfl rfl rfl ?_ | (apply D_R rfl rfl; (intro W hW; refine W_no rfl ?_; exact W_nil ⟨rfl, rfl, rfl⟩)) | (apply D_R rfl rfl; (intro W hW; subst hW; (refine W_yes rfl ?_; (first | refine W_idx1 rfl rfl rfl (by omega) ?_ | refine W_idx rfl rfl rfl (by omega) ?_ | refine W_indexAddr rfl rfl (by omega) (by omega) ?_)); exact W_nil ⟨rfl, rfl, rfl⟩)))
     <;> (first | refine D_skip rfl rfl rfl rfl ?_ | (apply D_R rfl rfl; (intro W hW; refine W_no rfl ?_; exact W_nil ⟨rfl, rfl, rfl⟩)) | (apply D_R rfl rfl; (intro W hW; subst hW; (refine W_yes rfl ?_; refine W_fieldAddr rfl ?_); exact W_nil ⟨rfl, rfl, rfl⟩)))
     <;> (first | refine D_skip rfl rfl rfl rfl ?_ | (apply D_R rfl rfl; (intro W hW; refine W_no rfl ?_; exact W_nil ⟨rfl, rfl, rfl⟩)) | (apply D_R rfl rfl; (intro W hW; subst hW; (refine W_yes rfl ?_; (first | refine W_load rfl (Blk.cell (by assumption) (by rfl)) ?_ | refine W_load rfl (by assumption) ?_)); exact W_nil ⟨rfl, rfl, rfl⟩)))
     <;> (first | refine D_skip rfl rfl rfl rfl ?_ | (apply D_R rfl rfl; (intro W hW; refine W_no rfl ?_; exact W_nil ⟨rfl, rfl, rfl⟩)) | (apply D_R rfl rfl; (intro W hW; subst hW; (refine W_yes rfl ?_; (first | refine M_slice rfl ?_ | refine W_move ?_)); exact W_nil ⟨rfl, rfl, rfl⟩)))
     <;> (first | refine D_skip rfl rfl rfl rfl ?_ | (apply D_R rfl rfl; (intro W hW; refine W_no rfl ?_; exact W_nil ⟨rfl, rfl, rfl⟩)) | (apply D_R rfl rfl; (intro W hW; subst hW; (refine W_yes rfl ?_; (first | refine M_int rfl ?_ | refine W_move ?_)); exact W_nil ⟨rfl, rfl, rfl⟩)))
     <;> (first | refine D_skip rfl rfl rfl rfl ?_ | (apply D_R rfl rfl; (intro W hW; refine W_no rfl ?_; exact W_nil ⟨rfl, rfl, rfl⟩)) | (apply D_R rfl rfl; (intro W hW; subst hW; (refine W_yes rfl ?_; (first | refine W_idx1 rfl rfl rfl (by omega) ?_ | refine W_idx rfl rfl rfl (by omega) ?_ | refine W_indexAddr rfl rfl (by omega) (by omega) ?_)); exact W_nil ⟨rfl, rfl, rfl⟩)))
     <;> (first | refine D_skip rfl rfl rfl rfl ?_ | (apply D_R rfl rfl; (intro W hW; refine W_no rfl ?_; exact W_nil ⟨rfl, rfl, rfl⟩)) | (apply D_R rfl rfl; (intro W hW; subst hW; (refine W_yes rfl ?_; refine W_fieldAddr rfl ?_); exact W_nil ⟨rfl, rfl, rfl⟩)))
     <;> (first | refine D_skip rfl rfl rfl rfl ?_ | (apply D_R rfl rfl; (intro W hW; refine W_no rfl ?_; exact W_nil ⟨rfl, rfl, rfl⟩)) | (apply D_R rfl rfl; (intro W hW; subst hW; (refine W_yes rfl ?_; (first | refine W_load rfl (Blk.cell (by assumption) (by rfl)) ?_ | refine W_load rfl (by assumption) ?_)); exact W_nil ⟨rfl, rfl, rfl⟩)))
     <;> (first | refine D_skip rfl rfl rfl rfl ?_ | (apply D_R rfl rfl; (intro W hW; refine W_no rfl ?_; exact W_nil ⟨rfl, rfl, rfl⟩)) | (refine D_sneq rfl rfl rfl rfl (fun hc => ?_) (fun hc => ?_)))
     <;> (apply D_R rfl rfl; (intro W hW; subst hW; ((first | refine M_pick_t rfl ?_ | refine M_pick_f rfl ?_); (first | refine M_bool rfl ?_ | refine W_move ?_)); exact W_nil ⟨rfl, rfl, rfl⟩))
     <;> refine D_nil ?_)
    · exact absurd et (by assumption)
    repeat'
      first
        | refine Q_then ?_ | refine C_cond_t rfl ?_ | refine C_cond_f rfl ?_ | refine C_seq ?_ | refine C_block ?_ | refine C_skip ?_ | refine C_ret ?_ | refine C_exit ?_
        | refine Q_then_ret ?_ | refine Q_then_exit ?_ | refine Q_block ?_ | refine Q_block_ret ?_ | refine Q_block_here ?_ | refine Q_block_on rfl ?_ | refine C_scope ?_ | refine C_label ?_ | refine Q_asn ?_ | refine Q_then_pan ?_ | refine Q_block_pan ?_ | refine Q_scope (fun l h => by cases h) ?_
    (refine C_region ?_
     <;> (first | refine M_int rfl ?_ | refine W_move ?_)
     <;> refine W_add rfl rfl (by first | exact inR_i64 (by omega) (by omega) | exact inR_u8 (by omega) (by omega) | exact inR_u16 (by omega) (by omega)) ?_
     <;> (refine M_assign ?_; (first | refine M_int rfl ?_ | refine W_move ?_))
     <;> refine W_nil ?_)
    repeat'
      first
        | refine Q_then ?_ | refine C_cond_t rfl ?_ | refine C_cond_f rfl ?_ | refine C_seq ?_ | refine C_block ?_ | refine C_skip ?_ | refine C_ret ?_ | refine C_exit ?_
        | refine Q_then_ret ?_ | refine Q_then_exit ?_ | refine Q_block ?_ | refine Q_block_ret ?_ | refine Q_block_here ?_ | refine Q_block_on rfl ?_ | refine C_scope ?_ | refine C_label ?_ | refine Q_asn ?_ | refine Q_then_pan ?_ | refine Q_block_pan ?_ | refine Q_scope (fun l h => by cases h) ?_
    refine ⟨k + 1, ⟨rfl, ⟨rfl, rfl, ?_, trivial⟩, ⟨by omega, k3.trans kd⟩⟩, by omega⟩
    show Value.int .i64 ((k : Int) + 1) = _
    rw [Int.natCast_add]; rfl
  · (refine C_region ?_
     <;> (first | refine M_int rfl ?_ | refine W_move ?_)
     <;> (first | refine M_slice rfl ?_ | refine W_move ?_)
     <;> refine W_len rfl ?_
     <;> (refine W_lss rfl rfl (fun hc => ?_) (fun hc => ?_) <;> try (exfalso; omega))
     <;> refine W_nil ?_)
    repeat'
      first
        | refine Q_then ?_ | refine C_cond_t rfl ?_ | refine C_cond_f rfl ?_ | refine C_seq ?_ | refine C_block ?_ | refine C_skip ?_ | refine C_ret ?_ | refine C_exit ?_
        | refine Q_then_ret ?_ | refine Q_then_exit ?_ | refine Q_block ?_ | refine Q_block_ret ?_ | refine Q_block_here ?_ | refine Q_block_on rfl ?_ | refine C_scope ?_ | refine C_label ?_ | refine Q_asn ?_ | refine Q_then_pan ?_ | refine Q_block_pan ?_ | refine Q_scope (fun l h => by cases h) ?_
    (refine C_region ?_
     <;> (refine M_assign ?_; (first | refine M_bool rfl ?_ | refine W_move ?_))
     <;> refine W_nil ?_)
    repeat'
      first
        | refine Q_then ?_ | refine C_cond_t rfl ?_ | refine C_cond_f rfl ?_ | refine C_seq ?_ | refine C_block ?_ | refine C_skip ?_ | refine C_ret ?_ | refine C_exit ?_
        | refine Q_then_ret ?_ | refine Q_then_exit ?_ | refine Q_block ?_ | refine Q_block_ret ?_ | refine Q_block_here ?_ | refine Q_block_on rfl ?_ | refine C_scope ?_ | refine C_label ?_ | refine Q_asn ?_ | refine Q_then_pan ?_ | refine Q_block_pan ?_ | refine Q_scope (fun l h => by cases h) ?_
    exact fin_ret1 rfl ⟨rfl, k3⟩
end Go.Proofs.YteonolnfgppagaaDoor
