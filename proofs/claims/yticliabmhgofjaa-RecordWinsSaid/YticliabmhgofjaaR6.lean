/- Wins of both implementations; rounds of events. Conditions: none. -/
import Derived.Test.YticliabmhgofjaaR5
namespace Go.Proofs.Yticliabmhgofjaa
open Go.RowKit
set_option linter.unusedVariables false

/-- the greatest mark of a name -/
def maxMark (n : Int) (es : List Evt) (z : Int) : Int := es.foldl (fun m e => max m (((namesL e n).lookup z).getD 0)) 0
theorem maxMark_snoc (n : Int) (es : List Evt) (e : Evt) (z : Int) : maxMark n (es ++ [e]) z = max (maxMark n es z) (((namesL e n).lookup z).getD 0) := by simp [maxMark, List.foldl_append]
theorem snoc_ind {α : Type} {Q : List α → Prop} (h0 : Q []) (h1 : ∀ l x, Q l → Q (l ++ [x])) : ∀ l, Q l := fun l => by
  rw [← List.reverse_reverse l]
  induction l.reverse with
  | nil => exact h0
  | cons x t ih => rw [List.reverse_cons]; exact h1 _ _ ih
theorem maxMark_val (n : Int) (es : List Evt) (z : Int) : maxMark n es z = if inN n z = true ∧ es.any (fun e => e.bad.contains z) = true then 2 else if inN n z = true ∧ es.any (fun e => e.good.contains z) = true then 1 else 0 := by
  induction es using snoc_ind with
  | h0 => simp [maxMark]
  | h1 es e ih =>
    rw [maxMark_snoc, ih, lookup_names]
    simp only [← List.contains_iff_mem]
    rw [List.any_append, List.any_append, List.any_cons, List.any_cons, List.any_nil, List.any_nil, Bool.or_false, Bool.or_false]
    generalize es.any (fun e => e.bad.contains z) = A
    generalize es.any (fun e => e.good.contains z) = B
    generalize e.bad.contains z = p
    generalize e.good.contains z = q
    generalize inN n z = r
    cases A <;> cases B <;> cases p <;> cases q <;> cases r <;> (try simp) <;> (try omega)

def winsL (n : Int) (es : List Evt) : Bool := decide (0 ≤ n) && decide (n ≤ 6000) && (upTo n.toNat).any fun z => es.any (fun e => e.good.contains z) && !es.any (fun e => e.bad.contains z)
theorem mem_upTo {n : Nat} {z : Int} : z ∈ upTo n ↔ inN n z = true := by
  simp only [upTo, List.mem_map, List.mem_range, inN, Bool.and_eq_true, decide_eq_true_eq]
  constructor
  · rintro ⟨i, hi, rfl⟩; omega
  · rintro ⟨h1, h2⟩; exact ⟨(z - 1).toNat, by omega, by omega⟩
theorem wins_iff {n : Nat} (h : n ≤ 6000) (es : List Evt) : winsL n es = true ↔ ∃ z, maxMark n es z = 1 := by
  simp only [winsL, Int.toNat_natCast, Bool.and_eq_true, decide_eq_true_eq, List.any_eq_true]
  constructor
  · rintro ⟨_, z, hz, h1, h2⟩
    refine ⟨z, ?_⟩
    have hn := mem_upTo.1 hz
    have h2' : ¬ (es.any fun e => e.bad.contains z) = true := by simpa using h2
    have h1' : (es.any fun e => e.good.contains z) = true := by simpa using h1
    rw [maxMark_val, if_neg (fun h => h2' h.2), if_pos ⟨hn, h1'⟩]
  · rintro ⟨z, hz⟩
    rw [maxMark_val] at hz
    split at hz
    · omega
    · rename_i h2
      split at hz
      · rename_i h1
        refine ⟨by omega, z, mem_upTo.2 h1.1, by simpa using h1.2, ?_⟩
        have : ¬ (es.any fun e => e.bad.contains z) = true := fun hh => h2 ⟨h1.1, hh⟩
        simpa using this
      · omega

theorem Wins_any (v1 v2 : Value) (n : Int) (es : List Evt) (w : World) (h : EvsAt w v2 es) :
    Fn Try.prog 19 [.int .i64 n, v1, v2] w fun v w' => v = .bool (winsL n es) ∧ Ext w w' := by
  obtain ⟨a, c, rfl, hl, hc, hx⟩ := h.form
  refine fn_of_wc Try.func19 rfl Try.ntmps19 (Nat.le_of_ble_eq_true rfl) (by kernel_rfl) ?_
  repeat'
    first
      | refine Q_then ?_ | refine C_cond_t rfl ?_ | refine C_cond_f rfl ?_ | refine C_seq ?_ | refine C_block ?_ | refine C_skip ?_ | refine C_ret ?_ | refine C_exit ?_
      | refine Q_then_ret ?_ | refine Q_then_exit ?_ | refine Q_block ?_ | refine Q_block_ret ?_ | refine Q_block_here ?_ | refine Q_block_on rfl ?_ | refine C_scope ?_ | refine C_label ?_ | refine Q_asn ?_
  (refine C_region ?_
   <;> (refine M_assign ?_; (first | refine M_bool rfl ?_ | refine W_move ?_))
   <;> refine W_nil ?_)
  repeat'
    first
      | refine Q_then ?_ | refine C_cond_t rfl ?_ | refine C_cond_f rfl ?_ | refine C_seq ?_ | refine C_block ?_ | refine C_skip ?_ | refine C_ret ?_ | refine C_exit ?_
      | refine Q_then_ret ?_ | refine Q_then_exit ?_ | refine Q_block ?_ | refine Q_block_ret ?_ | refine Q_block_here ?_ | refine Q_block_on rfl ?_ | refine C_scope ?_ | refine C_label ?_ | refine Q_asn ?_
  (refine C_region ?_
   <;> (first | refine M_int rfl ?_ | refine W_move ?_)
   <;> (refine W_lss rfl rfl (fun hc => ?_) (fun hc => ?_) <;> try (exfalso; omega))
   <;> (first | refine M_bool rfl ?_ | refine W_move ?_)
   <;> (first | refine W_no rfl ?_ | (refine W_yes rfl ?_; (first | refine M_int rfl ?_ | refine W_move ?_)))
   <;> (first | refine W_no rfl ?_ | (refine W_yes rfl ?_; (refine W_gtr rfl rfl (fun hc => ?_) (fun hc => ?_) <;> try (exfalso; omega))))
   <;> ((first | refine M_pick_t rfl ?_ | refine M_pick_f rfl ?_); (first | refine M_bool rfl ?_ | refine W_move ?_))
   <;> refine W_nil ?_)
  iterate 2
    · repeat'
        first
          | refine Q_then ?_ | refine C_cond_t rfl ?_ | refine C_cond_f rfl ?_ | refine C_seq ?_ | refine C_block ?_ | refine C_skip ?_ | refine C_ret ?_ | refine C_exit ?_
          | refine Q_then_ret ?_ | refine Q_then_exit ?_ | refine Q_block ?_ | refine Q_block_ret ?_ | refine Q_block_here ?_ | refine Q_block_on rfl ?_ | refine C_scope ?_ | refine C_label ?_ | refine Q_asn ?_
      (refine C_region ?_
       <;> (refine M_assign ?_; (first | refine M_bool rfl ?_ | refine W_move ?_))
       <;> refine W_nil ?_)
      repeat'
        first
          | refine Q_then ?_ | refine C_cond_t rfl ?_ | refine C_cond_f rfl ?_ | refine C_seq ?_ | refine C_block ?_ | refine C_skip ?_ | refine C_ret ?_ | refine C_exit ?_
          | refine Q_then_ret ?_ | refine Q_then_exit ?_ | refine Q_block ?_ | refine Q_block_ret ?_ | refine Q_block_here ?_ | refine Q_block_on rfl ?_ | refine C_scope ?_ | refine C_label ?_ | refine Q_asn ?_
      refine fin_ret1 rfl ⟨congrArg Value.bool ?_, Ext.refl _⟩
      symm
      unfold winsL
      first | rw [decide_eq_false (p := 0 ≤ n) (by omega)]; rfl | (rw [decide_eq_true (p := 0 ≤ n) (by omega), decide_eq_false (by omega)]; rfl)
  obtain ⟨m, rfl⟩ : ∃ m : Nat, n = m := ⟨n.toNat, by omega⟩
  repeat'
    first
      | refine Q_then ?_ | refine C_cond_t rfl ?_ | refine C_cond_f rfl ?_ | refine C_seq ?_ | refine C_block ?_ | refine C_skip ?_ | refine C_ret ?_ | refine C_exit ?_
      | refine Q_then_ret ?_ | refine Q_then_exit ?_ | refine Q_block ?_ | refine Q_block_ret ?_ | refine Q_block_here ?_ | refine Q_block_on rfl ?_ | refine C_scope ?_ | refine C_label ?_ | refine Q_asn ?_
  refine C_region ?_
  refine W_makeMap (fun w1 k1 z1 i1 => ?_)
  ((refine M_assign ?_; (first | refine M_map rfl ?_ | refine W_move ?_))
   <;> refine W_nil ?_)
  repeat'
    first
      | refine Q_then ?_ | refine C_cond_t rfl ?_ | refine C_cond_f rfl ?_ | refine C_seq ?_ | refine C_block ?_ | refine C_skip ?_ | refine C_ret ?_ | refine C_exit ?_
      | refine Q_then_ret ?_ | refine Q_then_exit ?_ | refine Q_block ?_ | refine Q_block_ret ?_ | refine Q_block_here ?_ | refine Q_block_on rfl ?_ | refine C_scope ?_ | refine C_label ?_ | refine Q_asn ?_
  (refine C_region ?_
   <;> (first | refine M_slice rfl ?_ | refine W_move ?_)
   <;> refine W_len rfl ?_
   <;> (first | refine M_int rfl ?_ | refine W_move ?_)
   <;> refine W_nil ?_)
  repeat'
    first
      | refine Q_then ?_ | refine C_cond_t rfl ?_ | refine C_cond_f rfl ?_ | refine C_seq ?_ | refine C_block ?_ | refine C_skip ?_ | refine C_ret ?_ | refine C_exit ?_
      | refine Q_then_ret ?_ | refine Q_then_exit ?_ | refine Q_block ?_ | refine Q_block_ret ?_ | refine Q_block_here ?_ | refine Q_block_on rfl ?_ | refine C_scope ?_ | refine C_label ?_ | refine Q_asn ?_
  generalize hrm : w.heap.size = rm at *
  refine C_loop (α := Nat × List (Int × Int)) (fun x => [(0, .int .i64 m), (7, .map (some rm)), (21, .slice a es.length c), (22, .int .i64 es.length), (23, .int .i64 x.1)])
    (fun x W => x.1 ≤ es.length ∧ Ext w W ∧ rm < W.heap.size ∧ IMap W rm x.2 ∧ ∀ z, (x.2.lookup z).getD 0 = maxMark m (es.take x.1) z) (fun x => es.length - x.1) (0, []) ⟨rfl, rfl, rfl, rfl, rfl, trivial⟩ ⟨by dsimp only; omega, k1, by omega, i1, fun z => rfl⟩ ?_
  rintro ⟨k, L⟩ W f' ⟨hk, hW, hrW, hi, hL⟩
  dsimp only at hk hi hL ⊢
  repeat'
    first
      | refine Q_then ?_ | refine C_cond_t rfl ?_ | refine C_cond_f rfl ?_ | refine C_seq ?_ | refine C_block ?_ | refine C_skip ?_ | refine C_ret ?_ | refine C_exit ?_
      | refine Q_then_ret ?_ | refine Q_then_exit ?_ | refine Q_block ?_ | refine Q_block_ret ?_ | refine Q_block_here ?_ | refine Q_block_on rfl ?_ | refine C_scope ?_ | refine C_label ?_ | refine Q_asn ?_
  (refine C_region ?_
   <;> (refine W_lss rfl rfl (fun hc => ?_) (fun hc => ?_) <;> try (exfalso; omega))
   <;> refine W_nil ?_)
  · repeat'
      first
        | refine Q_then ?_ | refine C_cond_t rfl ?_ | refine C_cond_f rfl ?_ | refine C_seq ?_ | refine C_block ?_ | refine C_skip ?_ | refine C_ret ?_ | refine C_exit ?_
        | refine Q_then_ret ?_ | refine Q_then_exit ?_ | refine Q_block ?_ | refine Q_block_ret ?_ | refine Q_block_here ?_ | refine Q_block_on rfl ?_ | refine C_scope ?_ | refine C_label ?_ | refine Q_asn ?_
    have hk2 : k < es.length := by omega
    obtain ⟨b, o, rfl, g⟩ := hx (by omega)
    obtain ⟨g1, b1, hcs, he⟩ := g k hk2
    have hcs' := hcs.keep hW (by simp)
    have hts : ∀ z, maxMark m (es.take (k + 1)) z = max (maxMark m (es.take k) z) (((namesL es[k] m).lookup z).getD 0) := fun z => by rw [List.take_succ_eq_append_getElem hk2, maxMark_snoc]
    generalize es[k] = e at *
    obtain ⟨ga, gc, rfl, _⟩ := he.1.form
    obtain ⟨ba, bc, rfl, _⟩ := he.2.form
    (refine C_region ?_
     <;> (first | refine W_idx1 rfl rfl rfl (by omega) ?_ | refine W_idx rfl rfl rfl (by omega) ?_ | refine W_indexAddr rfl rfl (by omega) (by omega) ?_))
    refine W_load_agg (L := [.slice ga e.good.length gc, .slice ba e.bad.length bc]) rfl rfl hcs' ?_
    refine W_alloc (fun w2 n2 => ?_)
    refine W_store_agg (cs := [.slice ga e.good.length gc, .slice ba e.bad.length bc]) rfl rfl rfl (by intro u hu; simp at hu; rcases hu with rfl | rfl <;> rfl) n2.blk (by simp) (fun w3 p3 => ?_)
    have b3 : Blk w3 W.heap.size 24 [.slice ga e.good.length gc, .slice ba e.bad.length bc] := p3.blk
    have k3 : Ext W w3 := n2.keep.keep p3.keep (by simp)
    clear n2 p3
    refine W_nil ?_
    repeat'
      first
        | refine Q_then ?_ | refine C_cond_t rfl ?_ | refine C_cond_f rfl ?_ | refine C_seq ?_ | refine C_block ?_ | refine C_skip ?_ | refine C_ret ?_ | refine C_exit ?_
        | refine Q_then_ret ?_ | refine Q_then_exit ?_ | refine Q_block ?_ | refine Q_block_ret ?_ | refine Q_block_here ?_ | refine Q_block_on rfl ?_ | refine C_scope ?_ | refine C_label ?_ | refine Q_asn ?_
    refine C_region ?_
    refine W_load_aggB rfl b3 rfl ?_
    ((first | refine M_int rfl ?_ | refine W_move ?_))
    -- at operation 2: <dst=(some 29) op=(call <callee=(value (func 26)) args=[(tmp 27), (tmp 28)] argTypes=[24, 3]>) type=44 guard=none>
    refine W_call (names_any _ _ e m _ (he.keep (hW.trans k3))) rfl ?_
    rintro _ w4 ⟨re, rfl, hr1, hr2, i4, k4⟩
    have hz3 := k3.size
    have nd4 := nodup_keys i4
    refine W_rangeMap rfl i4 (fun w5 k5 z5 it5 => ?_)
    have k35 := (k3.trans k4).trans k5
    have hz4 := k4.size
    have i5 := hi.keep k35 (by simp)
    generalize hit : w4.heap.size = it at *
    refine W_nil ?_
    repeat'
      first
        | refine Q_then ?_ | refine C_cond_t rfl ?_ | refine C_cond_f rfl ?_ | refine C_seq ?_ | refine C_block ?_ | refine C_skip ?_ | refine C_ret ?_ | refine C_exit ?_
        | refine Q_then_ret ?_ | refine Q_then_exit ?_ | refine Q_block ?_ | refine Q_block_ret ?_ | refine Q_block_here ?_ | refine Q_block_on rfl ?_ | refine C_scope ?_ | refine C_label ?_ | refine Q_asn ?_
    refine C_loop (α := List (Int × Int) × List (Int × Int)) (fun x => [(0, .int .i64 m), (7, .map (some rm)), (21, .slice (some ⟨b, o, none⟩) es.length c), (22, .int .i64 es.length), (23, .int .i64 k), (30, .pointer (some ⟨it, 0, none⟩))])
      (fun x V => Keep [rm] W V ∧ W.heap.size ≤ V.heap.size ∧ IMap V rm x.1 ∧ Iter V it re x.2 ∧ (∀ p ∈ x.2, p ∈ namesL e m) ∧ (x.2.map (·.1)).Nodup ∧ ∀ z, (x.1.lookup z).getD 0 = max (maxMark m (es.take k) z) (if z ∈ x.2.map (·.1) then 0 else ((namesL e m).lookup z).getD 0)) (fun x => x.2.length) (L, namesL e m)
      ⟨rfl, rfl, rfl, rfl, rfl, rfl, trivial⟩ ⟨k35.any, k35.size, i5, it5, fun _ h => h, nd4, ?_⟩ ?_
    · intro z
      rw [hL z]
      have hpos : 0 ≤ maxMark m (es.take k) z := by rw [maxMark_val]; split <;> (try split) <;> omega
      by_cases hz : z ∈ (namesL e m).map (·.1)
      · rw [if_pos hz]; omega
      · have hnone : (namesL e m).lookup z = none := lookup_none_of fun p hp hpz => hz (List.mem_map.2 ⟨p, hp, hpz⟩)
        rw [if_neg hz, hnone]; simp; omega
    · rintro ⟨L2, left⟩ V f'' ⟨hV, hVz, hi2, hit2, hleft, hnd, hL2⟩
      dsimp only at hi2 hit2 hleft hnd hL2 ⊢
      repeat'
        first
          | refine Q_then ?_ | refine C_cond_t rfl ?_ | refine C_cond_f rfl ?_ | refine C_seq ?_ | refine C_block ?_ | refine C_skip ?_ | refine C_ret ?_ | refine C_exit ?_
          | refine Q_then_ret ?_ | refine Q_then_exit ?_ | refine Q_block ?_ | refine Q_block_ret ?_ | refine Q_block_here ?_ | refine Q_block_on rfl ?_ | refine C_scope ?_ | refine C_label ?_ | refine Q_asn ?_
      refine C_region ?_
      refine W_nextMap rfl hit2 (by omega) (fun h0 => ?_) (fun p V2 hp hV2 hz2 hit3 hcur => ?_)
      · subst h0
        (refine W_extract rfl rfl ?_
         <;> refine W_nil ?_)
        repeat'
          first
            | refine Q_then ?_ | refine C_cond_t rfl ?_ | refine C_cond_f rfl ?_ | refine C_seq ?_ | refine C_block ?_ | refine C_skip ?_ | refine C_ret ?_ | refine C_exit ?_
            | refine Q_then_ret ?_ | refine Q_then_exit ?_ | refine Q_block ?_ | refine Q_block_ret ?_ | refine Q_block_here ?_ | refine Q_block_on rfl ?_ | refine C_scope ?_ | refine C_label ?_ | refine Q_asn ?_
        (refine C_region ?_
         <;> refine W_add rfl rfl (by first | exact inR_i64 (by omega) (by omega) | exact inR_u8 (by omega) (by omega) | exact inR_u16 (by omega) (by omega)) ?_
         <;> (first | refine M_int rfl ?_ | refine W_move ?_)
         <;> refine W_nil ?_)
        repeat'
          first
            | refine Q_then ?_ | refine C_cond_t rfl ?_ | refine C_cond_f rfl ?_ | refine C_seq ?_ | refine C_block ?_ | refine C_skip ?_ | refine C_ret ?_ | refine C_exit ?_
            | refine Q_then_ret ?_ | refine Q_then_exit ?_ | refine Q_block ?_ | refine Q_block_ret ?_ | refine Q_block_here ?_ | refine Q_block_on rfl ?_ | refine C_scope ?_ | refine C_label ?_ | refine Q_asn ?_
        refine ⟨(k + 1, L2), ⟨rfl, ⟨rfl, rfl, rfl, rfl, rfl, trivial⟩, ⟨hk2, ?_, by omega, hi2, fun z => ?_⟩⟩, by dsimp only; omega⟩
        · exact hW.keep hV (by simp; omega)
        · dsimp only
          rw [hL2 z, hts z]; simp
      · (refine W_extract rfl rfl ?_
         <;> refine W_nil ?_)
        repeat'
          first
            | refine Q_then ?_ | refine C_cond_t rfl ?_ | refine C_cond_f rfl ?_ | refine C_seq ?_ | refine C_block ?_ | refine C_skip ?_ | refine C_ret ?_ | refine C_exit ?_
            | refine Q_then_ret ?_ | refine Q_then_exit ?_ | refine Q_block ?_ | refine Q_block_ret ?_ | refine Q_block_here ?_ | refine Q_block_on rfl ?_ | refine C_scope ?_ | refine C_label ?_ | refine Q_asn ?_
        refine C_region ?_
        refine W_entryMap rfl hcur ?_
        (refine W_extract rfl rfl ?_
         <;> refine W_extract rfl rfl ?_
         <;> (refine M_assign ?_; (first | refine M_int rfl ?_ | refine W_move ?_))
         <;> (refine M_assign ?_; (first | refine M_int rfl ?_ | refine W_move ?_))
         <;> refine W_nil ?_)
        repeat'
          first
            | refine Q_then ?_ | refine C_cond_t rfl ?_ | refine C_cond_f rfl ?_ | refine C_seq ?_ | refine C_block ?_ | refine C_skip ?_ | refine C_ret ?_ | refine C_exit ?_
            | refine Q_then_ret ?_ | refine Q_then_exit ?_ | refine Q_block ?_ | refine Q_block_ret ?_ | refine Q_block_here ?_ | refine Q_block_on rfl ?_ | refine C_scope ?_ | refine C_label ?_ | refine Q_asn ?_
        have hi3 := hi2.keep hV2 (by simp; omega)
        have hpl : (namesL e m).lookup p.1 = some p.2 := lookup_some_of nd4 (hleft p hp)
        have hpk : p.1 ∈ left.map (·.1) := List.mem_map.2 ⟨p, hp, rfl⟩
        (refine C_region ?_
         <;> (first | refine M_map rfl ?_ | refine W_move ?_)
         <;> (first | refine M_int rfl ?_ | refine W_move ?_)
         <;> (first | refine M_map rfl ?_ | refine W_move ?_)
         <;> (first | refine M_int rfl ?_ | refine W_move ?_))
        -- at operation 4: <dst=(some 40) op=(lookup 44 (tmp 38) (tmp 39) false) type=3 guard=none>
        refine W_lookup rfl rfl hi3 ?_
        ((first | refine M_int rfl ?_ | refine W_move ?_))
        -- at operation 6: <dst=(some 42) op=(call <callee=(builtin max) args=[(tmp 40), (tmp 41)] argTypes=[3, 3]>) type=3 guard=none>
        refine W_max rfl rfl ?_
        refine W_mapUpdate rfl rfl rfl hi3 (fun V3 hV3 hz3' hi4 => ?_)
        refine W_nil ?_
        repeat'
          first
            | refine Q_then ?_ | refine C_cond_t rfl ?_ | refine C_cond_f rfl ?_ | refine C_seq ?_ | refine C_block ?_ | refine C_skip ?_ | refine C_ret ?_ | refine C_exit ?_
            | refine Q_then_ret ?_ | refine Q_then_exit ?_ | refine Q_block ?_ | refine Q_block_ret ?_ | refine Q_block_here ?_ | refine Q_block_on rfl ?_ | refine C_scope ?_ | refine C_label ?_ | refine Q_asn ?_
        refine ⟨(insL L2 p.1 (max ((L2.lookup p.1).getD 0) p.2), left.filter fun q => !(q.1 == p.1)), ⟨rfl, ⟨rfl, rfl, rfl, rfl, rfl, rfl, trivial⟩, ⟨(hV.trans hV2 ?_).trans hV3 (fun x hx _ => hx), by omega, hi4, hit3.keep hV3 (by simp; omega) (by simp; omega), fun q hq => hleft q (List.mem_filter.1 hq).1, (List.filter_sublist.map _).nodup hnd, fun z => ?_⟩⟩, ?_⟩
        · intro x hx hlt
          simp at hx; subst hx; omega
        · dsimp only
          rw [lookup_insL]
          by_cases hz : z = p.1
          · subst hz
            rw [if_pos rfl, if_neg (by simp), hpl]
            have := hL2 p.1
            rw [if_pos hpk] at this
            rw [this]
            simp only [Option.getD_some]
            have hpos : 0 ≤ maxMark m (es.take k) p.1 := by rw [maxMark_val]; split <;> (try split) <;> omega
            omega
          · rw [if_neg hz, hL2 z]
            congr 1
            have : (z ∈ (left.filter fun q => !(q.1 == p.1)).map (·.1)) ↔ z ∈ left.map (·.1) := by
              simp only [List.mem_map, List.mem_filter]
              constructor
              · rintro ⟨q, ⟨h1, _⟩, h2⟩; exact ⟨q, h1, h2⟩
              · rintro ⟨q, h1, h2⟩; exact ⟨q, ⟨h1, by simp [h2, hz]⟩, h2⟩
            by_cases hzl : z ∈ left.map (·.1)
            · rw [if_pos hzl, if_pos (this.2 hzl)]
            · rw [if_neg hzl, if_neg fun h => hzl (this.1 h)]
        · dsimp only
          exact List.length_filter_lt_length_iff_exists.2 ⟨p, hp, by simp⟩
  · repeat'
      first
        | refine Q_then ?_ | refine C_cond_t rfl ?_ | refine C_cond_f rfl ?_ | refine C_seq ?_ | refine C_block ?_ | refine C_skip ?_ | refine C_ret ?_ | refine C_exit ?_
        | refine Q_then_ret ?_ | refine Q_then_exit ?_ | refine Q_block ?_ | refine Q_block_ret ?_ | refine Q_block_here ?_ | refine Q_block_on rfl ?_ | refine C_scope ?_ | refine C_label ?_ | refine Q_asn ?_
    rw [List.take_of_length_le (by omega)] at hL
    have hnd := nodup_keys hi
    (refine C_region ?_
     <;> (first | refine M_map rfl ?_ | refine W_move ?_))
    -- at operation 1: <dst=(some 45) op=(range 44 (tmp 44)) type=0 guard=none>
    refine W_rangeMap rfl hi (fun w5 k5 z5 it5 => ?_)
    generalize hit : W.heap.size = it at *
    refine W_nil ?_
    repeat'
      first
        | refine Q_then ?_ | refine C_cond_t rfl ?_ | refine C_cond_f rfl ?_ | refine C_seq ?_ | refine C_block ?_ | refine C_skip ?_ | refine C_ret ?_ | refine C_exit ?_
        | refine Q_then_ret ?_ | refine Q_then_exit ?_ | refine Q_block ?_ | refine Q_block_ret ?_ | refine Q_block_here ?_ | refine Q_block_on rfl ?_ | refine C_scope ?_ | refine C_label ?_ | refine Q_asn ?_
    refine C_loop (α := List (Int × Int)) (fun x => [(45, .pointer (some ⟨it, 0, none⟩))])
      (fun x V => Ext W V ∧ Iter V it rm x ∧ (∀ p ∈ x, p ∈ L) ∧ ∀ p ∈ L, p ∈ x ∨ p.2 ≠ 1) (fun x => x.length) L
      ⟨rfl, trivial⟩ ⟨k5, it5, fun _ h => h, fun p hp => .inl hp⟩ ?_
    rintro left V f'' ⟨hV, hit2, hleft, hall⟩
    repeat'
      first
        | refine Q_then ?_ | refine C_cond_t rfl ?_ | refine C_cond_f rfl ?_ | refine C_seq ?_ | refine C_block ?_ | refine C_skip ?_ | refine C_ret ?_ | refine C_exit ?_
        | refine Q_then_ret ?_ | refine Q_then_exit ?_ | refine Q_block ?_ | refine Q_block_ret ?_ | refine Q_block_here ?_ | refine Q_block_on rfl ?_ | refine C_scope ?_ | refine C_label ?_ | refine Q_asn ?_
    refine C_region ?_
    refine W_nextMap rfl hit2 (by omega) (fun h0 => ?_) (fun p V2 hp hV2 hz2 hit3 hcur => ?_)
    · subst h0
      (refine W_extract rfl rfl ?_
       <;> refine W_nil ?_)
      repeat'
        first
          | refine Q_then ?_ | refine C_cond_t rfl ?_ | refine C_cond_f rfl ?_ | refine C_seq ?_ | refine C_block ?_ | refine C_skip ?_ | refine C_ret ?_ | refine C_exit ?_
          | refine Q_then_ret ?_ | refine Q_then_exit ?_ | refine Q_block ?_ | refine Q_block_ret ?_ | refine Q_block_here ?_ | refine Q_block_on rfl ?_ | refine C_scope ?_ | refine C_label ?_ | refine Q_asn ?_
      (refine C_region ?_
       <;> (refine M_assign ?_; (first | refine M_bool rfl ?_ | refine W_move ?_))
       <;> refine W_nil ?_)
      repeat'
        first
          | refine Q_then ?_ | refine C_cond_t rfl ?_ | refine C_cond_f rfl ?_ | refine C_seq ?_ | refine C_block ?_ | refine C_skip ?_ | refine C_ret ?_ | refine C_exit ?_
          | refine Q_then_ret ?_ | refine Q_then_exit ?_ | refine Q_block ?_ | refine Q_block_ret ?_ | refine Q_block_here ?_ | refine Q_block_on rfl ?_ | refine C_scope ?_ | refine C_label ?_ | refine Q_asn ?_
      refine fin_ret1 rfl ⟨congrArg Value.bool ?_, hW.trans hV⟩
      symm
      rw [Bool.eq_false_iff]
      intro hw
      obtain ⟨z, hz⟩ := (wins_iff (by omega) es).1 hw
      rw [← hL z] at hz
      cases hlk : L.lookup z with
      | none => rw [hlk] at hz; simp at hz
      | some y =>
        rw [hlk] at hz
        rcases hall _ (mem_of_lookup hlk) with hh | hh
        · cases hh
        · exact hh hz
    · (refine W_extract rfl rfl ?_
       <;> refine W_nil ?_)
      repeat'
        first
          | refine Q_then ?_ | refine C_cond_t rfl ?_ | refine C_cond_f rfl ?_ | refine C_seq ?_ | refine C_block ?_ | refine C_skip ?_ | refine C_ret ?_ | refine C_exit ?_
          | refine Q_then_ret ?_ | refine Q_then_exit ?_ | refine Q_block ?_ | refine Q_block_ret ?_ | refine Q_block_here ?_ | refine Q_block_on rfl ?_ | refine C_scope ?_ | refine C_label ?_ | refine Q_asn ?_
      refine C_region ?_
      refine W_entryMap rfl hcur ?_
      (refine W_extract rfl rfl ?_
       <;> (refine M_assign ?_; (first | refine M_int rfl ?_ | refine W_move ?_))
       <;> refine W_nil ?_)
      repeat'
        first
          | refine Q_then ?_ | refine C_cond_t rfl ?_ | refine C_cond_f rfl ?_ | refine C_seq ?_ | refine C_block ?_ | refine C_skip ?_ | refine C_ret ?_ | refine C_exit ?_
          | refine Q_then_ret ?_ | refine Q_then_exit ?_ | refine Q_block ?_ | refine Q_block_ret ?_ | refine Q_block_here ?_ | refine Q_block_on rfl ?_ | refine C_scope ?_ | refine C_label ?_ | refine Q_asn ?_
      have kV2 := hV.keep hV2 (by simp; omega)
      have hpl : L.lookup p.1 = some p.2 := lookup_some_of hnd (hleft p hp)
      (refine C_region ?_
       <;> (first | refine M_int rfl ?_ | refine W_move ?_)
       <;> (refine W_eql rfl rfl (fun hc => ?_) (fun hc => ?_) <;> try (exfalso; omega))
       <;> refine W_nil ?_)
      · repeat'
          first
            | refine Q_then ?_ | refine C_cond_t rfl ?_ | refine C_cond_f rfl ?_ | refine C_seq ?_ | refine C_block ?_ | refine C_skip ?_ | refine C_ret ?_ | refine C_exit ?_
            | refine Q_then_ret ?_ | refine Q_then_exit ?_ | refine Q_block ?_ | refine Q_block_ret ?_ | refine Q_block_here ?_ | refine Q_block_on rfl ?_ | refine C_scope ?_ | refine C_label ?_ | refine Q_asn ?_
        (refine C_region ?_
         <;> (refine M_assign ?_; (first | refine M_bool rfl ?_ | refine W_move ?_))
         <;> refine W_nil ?_)
        repeat'
          first
            | refine Q_then ?_ | refine C_cond_t rfl ?_ | refine C_cond_f rfl ?_ | refine C_seq ?_ | refine C_block ?_ | refine C_skip ?_ | refine C_ret ?_ | refine C_exit ?_
            | refine Q_then_ret ?_ | refine Q_then_exit ?_ | refine Q_block ?_ | refine Q_block_ret ?_ | refine Q_block_here ?_ | refine Q_block_on rfl ?_ | refine C_scope ?_ | refine C_label ?_ | refine Q_asn ?_
        refine fin_ret1 rfl ⟨congrArg Value.bool ?_, hW.trans kV2⟩
        symm
        refine (wins_iff (by omega) es).2 ⟨p.1, ?_⟩
        rw [← hL p.1, hpl, hc]; rfl
      · repeat'
          first
            | refine Q_then ?_ | refine C_cond_t rfl ?_ | refine C_cond_f rfl ?_ | refine C_seq ?_ | refine C_block ?_ | refine C_skip ?_ | refine C_ret ?_ | refine C_exit ?_
            | refine Q_then_ret ?_ | refine Q_then_exit ?_ | refine Q_block ?_ | refine Q_block_ret ?_ | refine Q_block_here ?_ | refine Q_block_on rfl ?_ | refine C_scope ?_ | refine C_label ?_ | refine Q_asn ?_
        refine ⟨left.filter fun q => !(q.1 == p.1), ⟨rfl, ⟨rfl, trivial⟩, ⟨kV2, hit3, fun q hq => hleft q (List.mem_filter.1 hq).1, fun q hq => ?_⟩⟩, List.length_filter_lt_length_iff_exists.2 ⟨p, hp, by simp⟩⟩
        rcases hall q hq with hh | hh
        · by_cases hqp : q.1 = p.1
          · right
            have := lookup_some_of hnd hq
            rw [hqp, hpl] at this
            intro hq1
            exact hc (by simpa [hq1] using this)
          · exact .inl (List.mem_filter.2 ⟨hh, by simp [hqp]⟩)
        · exact .inr hh

theorem any_take {es : List Evt} {k : Nat} (hk : k < es.length) (p : Evt → Bool) : (es.take (k + 1)).any p = ((es.take k).any p || p es[k]) := by
  rw [List.take_succ_eq_append_getElem hk, List.any_append]; simp
theorem refWins_any (v1 v2 : Value) (n : Int) (es : List Evt) (w : World) (h : EvsAt w v2 es) :
    Fn Try.prog 20 [.int .i64 n, v1, v2] w fun v w' => v = .bool (winsL n es) ∧ Ext w w' := by
  obtain ⟨a, c, rfl, hl, hc, hx⟩ := h.form
  refine fn_of_wc Try.func20 rfl Try.ntmps20 (Nat.le_of_ble_eq_true rfl) (by kernel_rfl) ?_
  repeat'
    first
      | refine Q_then ?_ | refine C_cond_t rfl ?_ | refine C_cond_f rfl ?_ | refine C_seq ?_ | refine C_block ?_ | refine C_skip ?_ | refine C_ret ?_ | refine C_exit ?_
      | refine Q_then_ret ?_ | refine Q_then_exit ?_ | refine Q_block ?_ | refine Q_block_ret ?_ | refine Q_block_here ?_ | refine Q_block_on rfl ?_ | refine C_scope ?_ | refine C_label ?_ | refine Q_asn ?_
  (refine C_region ?_
   <;> (refine M_assign ?_; (first | refine M_bool rfl ?_ | refine W_move ?_))
   <;> refine W_nil ?_)
  repeat'
    first
      | refine Q_then ?_ | refine C_cond_t rfl ?_ | refine C_cond_f rfl ?_ | refine C_seq ?_ | refine C_block ?_ | refine C_skip ?_ | refine C_ret ?_ | refine C_exit ?_
      | refine Q_then_ret ?_ | refine Q_then_exit ?_ | refine Q_block ?_ | refine Q_block_ret ?_ | refine Q_block_here ?_ | refine Q_block_on rfl ?_ | refine C_scope ?_ | refine C_label ?_ | refine Q_asn ?_
  (refine C_region ?_
   <;> (first | refine M_int rfl ?_ | refine W_move ?_)
   <;> (refine W_lss rfl rfl (fun hc => ?_) (fun hc => ?_) <;> try (exfalso; omega))
   <;> (first | refine M_bool rfl ?_ | refine W_move ?_)
   <;> (first | refine W_no rfl ?_ | (refine W_yes rfl ?_; (first | refine M_int rfl ?_ | refine W_move ?_)))
   <;> (first | refine W_no rfl ?_ | (refine W_yes rfl ?_; (refine W_gtr rfl rfl (fun hc => ?_) (fun hc => ?_) <;> try (exfalso; omega))))
   <;> ((first | refine M_pick_t rfl ?_ | refine M_pick_f rfl ?_); (first | refine M_bool rfl ?_ | refine W_move ?_))
   <;> refine W_nil ?_)
  iterate 2
    · repeat'
        first
          | refine Q_then ?_ | refine C_cond_t rfl ?_ | refine C_cond_f rfl ?_ | refine C_seq ?_ | refine C_block ?_ | refine C_skip ?_ | refine C_ret ?_ | refine C_exit ?_
          | refine Q_then_ret ?_ | refine Q_then_exit ?_ | refine Q_block ?_ | refine Q_block_ret ?_ | refine Q_block_here ?_ | refine Q_block_on rfl ?_ | refine C_scope ?_ | refine C_label ?_ | refine Q_asn ?_
      (refine C_region ?_
       <;> (refine M_assign ?_; (first | refine M_bool rfl ?_ | refine W_move ?_))
       <;> refine W_nil ?_)
      repeat'
        first
          | refine Q_then ?_ | refine C_cond_t rfl ?_ | refine C_cond_f rfl ?_ | refine C_seq ?_ | refine C_block ?_ | refine C_skip ?_ | refine C_ret ?_ | refine C_exit ?_
          | refine Q_then_ret ?_ | refine Q_then_exit ?_ | refine Q_block ?_ | refine Q_block_ret ?_ | refine Q_block_here ?_ | refine Q_block_on rfl ?_ | refine C_scope ?_ | refine C_label ?_ | refine Q_asn ?_
      refine fin_ret1 rfl ⟨congrArg Value.bool ?_, Ext.refl _⟩
      symm
      unfold winsL
      first | rw [decide_eq_false (p := 0 ≤ n) (by omega)]; rfl | (rw [decide_eq_true (p := 0 ≤ n) (by omega), decide_eq_false (by omega)]; rfl)
  obtain ⟨m, rfl⟩ : ∃ m : Nat, n = m := ⟨n.toNat, by omega⟩
  repeat'
    first
      | refine Q_then ?_ | refine C_cond_t rfl ?_ | refine C_cond_f rfl ?_ | refine C_seq ?_ | refine C_block ?_ | refine C_skip ?_ | refine C_ret ?_ | refine C_exit ?_
      | refine Q_then_ret ?_ | refine Q_then_exit ?_ | refine Q_block ?_ | refine Q_block_ret ?_ | refine Q_block_here ?_ | refine Q_block_on rfl ?_ | refine C_scope ?_ | refine C_label ?_ | refine Q_asn ?_
  (refine C_region ?_
   <;> (refine M_assign ?_; (first | refine M_int rfl ?_ | refine W_move ?_))
   <;> refine W_nil ?_)
  repeat'
    first
      | refine Q_then ?_ | refine C_cond_t rfl ?_ | refine C_cond_f rfl ?_ | refine C_seq ?_ | refine C_block ?_ | refine C_skip ?_ | refine C_ret ?_ | refine C_exit ?_
      | refine Q_then_ret ?_ | refine Q_then_exit ?_ | refine Q_block ?_ | refine Q_block_ret ?_ | refine Q_block_here ?_ | refine Q_block_on rfl ?_ | refine C_scope ?_ | refine C_label ?_ | refine Q_asn ?_
  refine C_loop (α := Nat) (fun x => [(0, .int .i64 m), (2, .slice a es.length c), (7, .int .i64 ((x + 1 : Nat) : Int))]) (fun x W => x ≤ m ∧ W = w ∧ ∀ z ∈ upTo x, (es.any (fun e => e.good.contains z) && !es.any (fun e => e.bad.contains z)) = false) (fun x => m - x) 0 ⟨rfl, rfl, rfl, trivial⟩ ⟨by omega, rfl, fun z hz => by simp [upTo] at hz⟩ ?_
  rintro q W f' ⟨hq, rfl, hall⟩
  repeat'
    first
      | refine Q_then ?_ | refine C_cond_t rfl ?_ | refine C_cond_f rfl ?_ | refine C_seq ?_ | refine C_block ?_ | refine C_skip ?_ | refine C_ret ?_ | refine C_exit ?_
      | refine Q_then_ret ?_ | refine Q_then_exit ?_ | refine Q_block ?_ | refine Q_block_ret ?_ | refine Q_block_here ?_ | refine Q_block_on rfl ?_ | refine C_scope ?_ | refine C_label ?_ | refine Q_asn ?_
  (refine C_region ?_
   <;> (first | refine M_int rfl ?_ | refine W_move ?_)
   <;> (first | refine M_int rfl ?_ | refine W_move ?_)
   <;> (refine W_leq rfl rfl (fun hc => ?_) (fun hc => ?_) <;> try (exfalso; omega))
   <;> refine W_nil ?_)
  · repeat'
      first
        | refine Q_then ?_ | refine C_cond_t rfl ?_ | refine C_cond_f rfl ?_ | refine C_seq ?_ | refine C_block ?_ | refine C_skip ?_ | refine C_ret ?_ | refine C_exit ?_
        | refine Q_then_ret ?_ | refine Q_then_exit ?_ | refine Q_block ?_ | refine Q_block_ret ?_ | refine Q_block_here ?_ | refine Q_block_on rfl ?_ | refine C_scope ?_ | refine C_label ?_ | refine Q_asn ?_
    (refine C_region ?_
     <;> (refine M_assign ?_; (first | refine M_bool rfl ?_ | refine W_move ?_))
     <;> refine W_nil ?_)
    repeat'
      first
        | refine Q_then ?_ | refine C_cond_t rfl ?_ | refine C_cond_f rfl ?_ | refine C_seq ?_ | refine C_block ?_ | refine C_skip ?_ | refine C_ret ?_ | refine C_exit ?_
        | refine Q_then_ret ?_ | refine Q_then_exit ?_ | refine Q_block ?_ | refine Q_block_ret ?_ | refine Q_block_here ?_ | refine Q_block_on rfl ?_ | refine C_scope ?_ | refine C_label ?_ | refine Q_asn ?_
    (refine C_region ?_
     <;> (refine M_assign ?_; (first | refine M_bool rfl ?_ | refine W_move ?_))
     <;> refine W_nil ?_)
    repeat'
      first
        | refine Q_then ?_ | refine C_cond_t rfl ?_ | refine C_cond_f rfl ?_ | refine C_seq ?_ | refine C_block ?_ | refine C_skip ?_ | refine C_ret ?_ | refine C_exit ?_
        | refine Q_then_ret ?_ | refine Q_then_exit ?_ | refine Q_block ?_ | refine Q_block_ret ?_ | refine Q_block_here ?_ | refine Q_block_on rfl ?_ | refine C_scope ?_ | refine C_label ?_ | refine Q_asn ?_
    (refine C_region ?_
     <;> (refine M_assign ?_; (first | refine M_int rfl ?_ | refine W_move ?_))
     <;> refine W_nil ?_)
    repeat'
      first
        | refine Q_then ?_ | refine C_cond_t rfl ?_ | refine C_cond_f rfl ?_ | refine C_seq ?_ | refine C_block ?_ | refine C_skip ?_ | refine C_ret ?_ | refine C_exit ?_
        | refine Q_then_ret ?_ | refine Q_then_exit ?_ | refine Q_block ?_ | refine Q_block_ret ?_ | refine Q_block_here ?_ | refine Q_block_on rfl ?_ | refine C_scope ?_ | refine C_label ?_ | refine Q_asn ?_
    generalize hz : ((q + 1 : Nat) : Int) = z
    refine C_loop (α := Nat) (fun x => [(0, .int .i64 m), (2, .slice a es.length c), (7, .int .i64 z), (8, .bool ((es.take x).any (fun e => e.good.contains z))), (9, .bool ((es.take x).any (fun e => e.bad.contains z))), (10, .int .i64 x)]) (fun x V => x ≤ es.length ∧ V = W) (fun x => es.length - x) 0 ⟨rfl, rfl, rfl, rfl, rfl, rfl, trivial⟩ ⟨by omega, rfl⟩ ?_
    rintro k V f'' ⟨hk, rfl⟩
    repeat'
      first
        | refine Q_then ?_ | refine C_cond_t rfl ?_ | refine C_cond_f rfl ?_ | refine C_seq ?_ | refine C_block ?_ | refine C_skip ?_ | refine C_ret ?_ | refine C_exit ?_
        | refine Q_then_ret ?_ | refine Q_then_exit ?_ | refine Q_block ?_ | refine Q_block_ret ?_ | refine Q_block_here ?_ | refine Q_block_on rfl ?_ | refine C_scope ?_ | refine C_label ?_ | refine Q_asn ?_
    (refine C_region ?_
     <;> (first | refine M_int rfl ?_ | refine W_move ?_)
     <;> (first | refine M_slice rfl ?_ | refine W_move ?_)
     <;> refine W_len rfl ?_
     <;> (refine W_lss rfl rfl (fun hc => ?_) (fun hc => ?_) <;> try (exfalso; omega))
     <;> refine W_nil ?_)
    · repeat'
        first
          | refine Q_then ?_ | refine C_cond_t rfl ?_ | refine C_cond_f rfl ?_ | refine C_seq ?_ | refine C_block ?_ | refine C_skip ?_ | refine C_ret ?_ | refine C_exit ?_
          | refine Q_then_ret ?_ | refine Q_then_exit ?_ | refine Q_block ?_ | refine Q_block_ret ?_ | refine Q_block_here ?_ | refine Q_block_on rfl ?_ | refine C_scope ?_ | refine C_label ?_ | refine Q_asn ?_
      have hk2 : k < es.length := by omega
      obtain ⟨b, o, rfl, g⟩ := hx (by omega)
      obtain ⟨g1, b1, hcs, he⟩ := g k hk2
      have hf := hcs.fst
      have hs := hcs.snd
      have hg1 := any_take hk2 fun e => e.good.contains z
      have hb1 := any_take hk2 fun e => e.bad.contains z
      generalize es[k] = e at *
      generalize hga : (es.take k).any (fun e => e.good.contains z) = ga at *
      generalize hba : (es.take k).any (fun e => e.bad.contains z) = ba at *
      cases ga with
      | true =>
        (refine C_region ?_
         <;> (first | refine M_bool rfl ?_ | refine W_move ?_)
         <;> (first | refine M_bool rfl ?_ | refine W_move ?_)
         <;> (first | refine W_no rfl ?_ | (refine W_yes rfl ?_; (first | refine M_slice rfl ?_ | refine W_move ?_)))
         <;> (first | refine W_no rfl ?_ | (refine W_yes rfl ?_; (first | refine M_int rfl ?_ | refine W_move ?_)))
         <;> (first | refine W_no rfl ?_ | (refine W_yes rfl ?_; (first | refine W_idx1 rfl rfl rfl (by omega) ?_ | refine W_idx rfl rfl rfl (by omega) ?_ | refine W_indexAddr rfl rfl (by omega) (by omega) ?_)))
         <;> (first | refine W_no rfl ?_ | (refine W_yes rfl ?_; refine W_fieldAddr rfl ?_))
         <;> (first | refine W_no rfl ?_ | (refine W_yes rfl ?_; (first | refine W_load rfl (Blk.cell (by assumption) (by rfl)) ?_ | refine W_load rfl (by assumption) ?_)))
         <;> (first | refine W_no rfl ?_ | (refine W_yes rfl ?_; (first | refine M_int rfl ?_ | refine W_move ?_))))
        -- at operation 8: <dst=(some 36) op=(call <callee=(value (func 22)) args=[(tmp 34), (tmp 35)] argTypes=[22, 3]>) type=4 guard=(some [1, false])>
        refine W_no rfl ?_
        (((first | refine M_pick_t rfl ?_ | refine M_pick_f rfl ?_); (first | refine M_bool rfl ?_ | refine W_move ?_))
         <;> (refine M_assign ?_; (first | refine M_bool rfl ?_ | refine W_move ?_))
         <;> refine W_nil ?_)
        repeat'
          first
            | refine Q_then ?_ | refine C_cond_t rfl ?_ | refine C_cond_f rfl ?_ | refine C_seq ?_ | refine C_block ?_ | refine C_skip ?_ | refine C_ret ?_ | refine C_exit ?_
            | refine Q_then_ret ?_ | refine Q_then_exit ?_ | refine Q_block ?_ | refine Q_block_ret ?_ | refine Q_block_here ?_ | refine Q_block_on rfl ?_ | refine C_scope ?_ | refine C_label ?_ | refine Q_asn ?_
        cases ba with
        | true =>
          (refine C_region ?_
           <;> (first | refine M_bool rfl ?_ | refine W_move ?_)
           <;> (first | refine M_bool rfl ?_ | refine W_move ?_)
           <;> (first | refine W_no rfl ?_ | (refine W_yes rfl ?_; (first | refine M_slice rfl ?_ | refine W_move ?_)))
           <;> (first | refine W_no rfl ?_ | (refine W_yes rfl ?_; (first | refine M_int rfl ?_ | refine W_move ?_)))
           <;> (first | refine W_no rfl ?_ | (refine W_yes rfl ?_; (first | refine W_idx1 rfl rfl rfl (by omega) ?_ | refine W_idx rfl rfl rfl (by omega) ?_ | refine W_indexAddr rfl rfl (by omega) (by omega) ?_)))
           <;> (first | refine W_no rfl ?_ | (refine W_yes rfl ?_; refine W_fieldAddr rfl ?_))
           <;> (first | refine W_no rfl ?_ | (refine W_yes rfl ?_; (first | refine W_load rfl (Blk.cell (by assumption) (by rfl)) ?_ | refine W_load rfl (by assumption) ?_)))
           <;> (first | refine W_no rfl ?_ | (refine W_yes rfl ?_; (first | refine M_int rfl ?_ | refine W_move ?_))))
          -- at operation 8: <dst=(some 46) op=(call <callee=(value (func 22)) args=[(tmp 44), (tmp 45)] argTypes=[22, 3]>) type=4 guard=(some [1, false])>
          refine W_no rfl ?_
          (((first | refine M_pick_t rfl ?_ | refine M_pick_f rfl ?_); (first | refine M_bool rfl ?_ | refine W_move ?_))
           <;> (refine M_assign ?_; (first | refine M_bool rfl ?_ | refine W_move ?_))
           <;> refine W_nil ?_)
          repeat'
            first
              | refine Q_then ?_ | refine C_cond_t rfl ?_ | refine C_cond_f rfl ?_ | refine C_seq ?_ | refine C_block ?_ | refine C_skip ?_ | refine C_ret ?_ | refine C_exit ?_
              | refine Q_then_ret ?_ | refine Q_then_exit ?_ | refine Q_block ?_ | refine Q_block_ret ?_ | refine Q_block_here ?_ | refine Q_block_on rfl ?_ | refine C_scope ?_ | refine C_label ?_ | refine Q_asn ?_
          (refine C_region ?_
           <;> (first | refine M_int rfl ?_ | refine W_move ?_)
           <;> refine W_add rfl rfl (by first | exact inR_i64 (by omega) (by omega) | exact inR_u8 (by omega) (by omega) | exact inR_u16 (by omega) (by omega)) ?_
           <;> (refine M_assign ?_; (first | refine M_int rfl ?_ | refine W_move ?_))
           <;> refine W_nil ?_)
          repeat'
            first
              | refine Q_then ?_ | refine C_cond_t rfl ?_ | refine C_cond_f rfl ?_ | refine C_seq ?_ | refine C_block ?_ | refine C_skip ?_ | refine C_ret ?_ | refine C_exit ?_
              | refine Q_then_ret ?_ | refine Q_then_exit ?_ | refine Q_block ?_ | refine Q_block_ret ?_ | refine Q_block_here ?_ | refine Q_block_on rfl ?_ | refine C_scope ?_ | refine C_label ?_ | refine Q_asn ?_
          exact ⟨k + 1, ⟨rfl, ⟨rfl, rfl, rfl, congrArg Value.bool (by rw [hg1]; rfl), congrArg Value.bool (by rw [hb1]; rfl), rfl, trivial⟩, ⟨hk2, rfl⟩⟩, by omega⟩
        | false =>
          (refine C_region ?_
           <;> (first | refine M_bool rfl ?_ | refine W_move ?_)
           <;> (first | refine M_bool rfl ?_ | refine W_move ?_)
           <;> (first | refine W_no rfl ?_ | (refine W_yes rfl ?_; (first | refine M_slice rfl ?_ | refine W_move ?_)))
           <;> (first | refine W_no rfl ?_ | (refine W_yes rfl ?_; (first | refine M_int rfl ?_ | refine W_move ?_)))
           <;> (first | refine W_no rfl ?_ | (refine W_yes rfl ?_; (first | refine W_idx1 rfl rfl rfl (by omega) ?_ | refine W_idx rfl rfl rfl (by omega) ?_ | refine W_indexAddr rfl rfl (by omega) (by omega) ?_)))
           <;> (first | refine W_no rfl ?_ | (refine W_yes rfl ?_; refine W_fieldAddr rfl ?_))
           <;> (first | refine W_no rfl ?_ | (refine W_yes rfl ?_; (first | refine W_load rfl (Blk.cell (by assumption) (by rfl)) ?_ | refine W_load rfl (by assumption) ?_)))
           <;> (first | refine W_no rfl ?_ | (refine W_yes rfl ?_; (first | refine M_int rfl ?_ | refine W_move ?_))))
          -- at operation 8: <dst=(some 46) op=(call <callee=(value (func 22)) args=[(tmp 44), (tmp 45)] argTypes=[22, 3]>) type=4 guard=(some [1, false])>
          refine W_yes rfl ?_
          refine W_call (In_any _ e.bad z _ he.2) rfl ?_
          rintro _ V3 ⟨rfl, rfl⟩
          (((first | refine M_pick_t rfl ?_ | refine M_pick_f rfl ?_); (first | refine M_bool rfl ?_ | refine W_move ?_))
           <;> (refine M_assign ?_; (first | refine M_bool rfl ?_ | refine W_move ?_))
           <;> refine W_nil ?_)
          repeat'
            first
              | refine Q_then ?_ | refine C_cond_t rfl ?_ | refine C_cond_f rfl ?_ | refine C_seq ?_ | refine C_block ?_ | refine C_skip ?_ | refine C_ret ?_ | refine C_exit ?_
              | refine Q_then_ret ?_ | refine Q_then_exit ?_ | refine Q_block ?_ | refine Q_block_ret ?_ | refine Q_block_here ?_ | refine Q_block_on rfl ?_ | refine C_scope ?_ | refine C_label ?_ | refine Q_asn ?_
          (refine C_region ?_
           <;> (first | refine M_int rfl ?_ | refine W_move ?_)
           <;> refine W_add rfl rfl (by first | exact inR_i64 (by omega) (by omega) | exact inR_u8 (by omega) (by omega) | exact inR_u16 (by omega) (by omega)) ?_
           <;> (refine M_assign ?_; (first | refine M_int rfl ?_ | refine W_move ?_))
           <;> refine W_nil ?_)
          repeat'
            first
              | refine Q_then ?_ | refine C_cond_t rfl ?_ | refine C_cond_f rfl ?_ | refine C_seq ?_ | refine C_block ?_ | refine C_skip ?_ | refine C_ret ?_ | refine C_exit ?_
              | refine Q_then_ret ?_ | refine Q_then_exit ?_ | refine Q_block ?_ | refine Q_block_ret ?_ | refine Q_block_here ?_ | refine Q_block_on rfl ?_ | refine C_scope ?_ | refine C_label ?_ | refine Q_asn ?_
          exact ⟨k + 1, ⟨rfl, ⟨rfl, rfl, rfl, congrArg Value.bool (by rw [hg1]; rfl), congrArg Value.bool (by rw [hb1]; rfl), rfl, trivial⟩, ⟨hk2, rfl⟩⟩, by omega⟩
      | false =>
        (refine C_region ?_
         <;> (first | refine M_bool rfl ?_ | refine W_move ?_)
         <;> (first | refine M_bool rfl ?_ | refine W_move ?_)
         <;> (first | refine W_no rfl ?_ | (refine W_yes rfl ?_; (first | refine M_slice rfl ?_ | refine W_move ?_)))
         <;> (first | refine W_no rfl ?_ | (refine W_yes rfl ?_; (first | refine M_int rfl ?_ | refine W_move ?_)))
         <;> (first | refine W_no rfl ?_ | (refine W_yes rfl ?_; (first | refine W_idx1 rfl rfl rfl (by omega) ?_ | refine W_idx rfl rfl rfl (by omega) ?_ | refine W_indexAddr rfl rfl (by omega) (by omega) ?_)))
         <;> (first | refine W_no rfl ?_ | (refine W_yes rfl ?_; refine W_fieldAddr rfl ?_))
         <;> (first | refine W_no rfl ?_ | (refine W_yes rfl ?_; (first | refine W_load rfl (Blk.cell (by assumption) (by rfl)) ?_ | refine W_load rfl (by assumption) ?_)))
         <;> (first | refine W_no rfl ?_ | (refine W_yes rfl ?_; (first | refine M_int rfl ?_ | refine W_move ?_))))
        -- at operation 8: <dst=(some 36) op=(call <callee=(value (func 22)) args=[(tmp 34), (tmp 35)] argTypes=[22, 3]>) type=4 guard=(some [1, false])>
        refine W_yes rfl ?_
        refine W_call (In_any _ e.good z _ he.1) rfl ?_
        rintro _ V2 ⟨rfl, rfl⟩
        (((first | refine M_pick_t rfl ?_ | refine M_pick_f rfl ?_); (first | refine M_bool rfl ?_ | refine W_move ?_))
         <;> (refine M_assign ?_; (first | refine M_bool rfl ?_ | refine W_move ?_))
         <;> refine W_nil ?_)
        repeat'
          first
            | refine Q_then ?_ | refine C_cond_t rfl ?_ | refine C_cond_f rfl ?_ | refine C_seq ?_ | refine C_block ?_ | refine C_skip ?_ | refine C_ret ?_ | refine C_exit ?_
            | refine Q_then_ret ?_ | refine Q_then_exit ?_ | refine Q_block ?_ | refine Q_block_ret ?_ | refine Q_block_here ?_ | refine Q_block_on rfl ?_ | refine C_scope ?_ | refine C_label ?_ | refine Q_asn ?_
        cases ba with
        | true =>
          (refine C_region ?_
           <;> (first | refine M_bool rfl ?_ | refine W_move ?_)
           <;> (first | refine M_bool rfl ?_ | refine W_move ?_)
           <;> (first | refine W_no rfl ?_ | (refine W_yes rfl ?_; (first | refine M_slice rfl ?_ | refine W_move ?_)))
           <;> (first | refine W_no rfl ?_ | (refine W_yes rfl ?_; (first | refine M_int rfl ?_ | refine W_move ?_)))
           <;> (first | refine W_no rfl ?_ | (refine W_yes rfl ?_; (first | refine W_idx1 rfl rfl rfl (by omega) ?_ | refine W_idx rfl rfl rfl (by omega) ?_ | refine W_indexAddr rfl rfl (by omega) (by omega) ?_)))
           <;> (first | refine W_no rfl ?_ | (refine W_yes rfl ?_; refine W_fieldAddr rfl ?_))
           <;> (first | refine W_no rfl ?_ | (refine W_yes rfl ?_; (first | refine W_load rfl (Blk.cell (by assumption) (by rfl)) ?_ | refine W_load rfl (by assumption) ?_)))
           <;> (first | refine W_no rfl ?_ | (refine W_yes rfl ?_; (first | refine M_int rfl ?_ | refine W_move ?_))))
          -- at operation 8: <dst=(some 46) op=(call <callee=(value (func 22)) args=[(tmp 44), (tmp 45)] argTypes=[22, 3]>) type=4 guard=(some [1, false])>
          refine W_no rfl ?_
          (((first | refine M_pick_t rfl ?_ | refine M_pick_f rfl ?_); (first | refine M_bool rfl ?_ | refine W_move ?_))
           <;> (refine M_assign ?_; (first | refine M_bool rfl ?_ | refine W_move ?_))
           <;> refine W_nil ?_)
          repeat'
            first
              | refine Q_then ?_ | refine C_cond_t rfl ?_ | refine C_cond_f rfl ?_ | refine C_seq ?_ | refine C_block ?_ | refine C_skip ?_ | refine C_ret ?_ | refine C_exit ?_
              | refine Q_then_ret ?_ | refine Q_then_exit ?_ | refine Q_block ?_ | refine Q_block_ret ?_ | refine Q_block_here ?_ | refine Q_block_on rfl ?_ | refine C_scope ?_ | refine C_label ?_ | refine Q_asn ?_
          (refine C_region ?_
           <;> (first | refine M_int rfl ?_ | refine W_move ?_)
           <;> refine W_add rfl rfl (by first | exact inR_i64 (by omega) (by omega) | exact inR_u8 (by omega) (by omega) | exact inR_u16 (by omega) (by omega)) ?_
           <;> (refine M_assign ?_; (first | refine M_int rfl ?_ | refine W_move ?_))
           <;> refine W_nil ?_)
          repeat'
            first
              | refine Q_then ?_ | refine C_cond_t rfl ?_ | refine C_cond_f rfl ?_ | refine C_seq ?_ | refine C_block ?_ | refine C_skip ?_ | refine C_ret ?_ | refine C_exit ?_
              | refine Q_then_ret ?_ | refine Q_then_exit ?_ | refine Q_block ?_ | refine Q_block_ret ?_ | refine Q_block_here ?_ | refine Q_block_on rfl ?_ | refine C_scope ?_ | refine C_label ?_ | refine Q_asn ?_
          exact ⟨k + 1, ⟨rfl, ⟨rfl, rfl, rfl, congrArg Value.bool (by rw [hg1]; rfl), congrArg Value.bool (by rw [hb1]; rfl), rfl, trivial⟩, ⟨hk2, rfl⟩⟩, by omega⟩
        | false =>
          (refine C_region ?_
           <;> (first | refine M_bool rfl ?_ | refine W_move ?_)
           <;> (first | refine M_bool rfl ?_ | refine W_move ?_)
           <;> (first | refine W_no rfl ?_ | (refine W_yes rfl ?_; (first | refine M_slice rfl ?_ | refine W_move ?_)))
           <;> (first | refine W_no rfl ?_ | (refine W_yes rfl ?_; (first | refine M_int rfl ?_ | refine W_move ?_)))
           <;> (first | refine W_no rfl ?_ | (refine W_yes rfl ?_; (first | refine W_idx1 rfl rfl rfl (by omega) ?_ | refine W_idx rfl rfl rfl (by omega) ?_ | refine W_indexAddr rfl rfl (by omega) (by omega) ?_)))
           <;> (first | refine W_no rfl ?_ | (refine W_yes rfl ?_; refine W_fieldAddr rfl ?_))
           <;> (first | refine W_no rfl ?_ | (refine W_yes rfl ?_; (first | refine W_load rfl (Blk.cell (by assumption) (by rfl)) ?_ | refine W_load rfl (by assumption) ?_)))
           <;> (first | refine W_no rfl ?_ | (refine W_yes rfl ?_; (first | refine M_int rfl ?_ | refine W_move ?_))))
          -- at operation 8: <dst=(some 46) op=(call <callee=(value (func 22)) args=[(tmp 44), (tmp 45)] argTypes=[22, 3]>) type=4 guard=(some [1, false])>
          refine W_yes rfl ?_
          refine W_call (In_any _ e.bad z _ he.2) rfl ?_
          rintro _ V3 ⟨rfl, rfl⟩
          (((first | refine M_pick_t rfl ?_ | refine M_pick_f rfl ?_); (first | refine M_bool rfl ?_ | refine W_move ?_))
           <;> (refine M_assign ?_; (first | refine M_bool rfl ?_ | refine W_move ?_))
           <;> refine W_nil ?_)
          repeat'
            first
              | refine Q_then ?_ | refine C_cond_t rfl ?_ | refine C_cond_f rfl ?_ | refine C_seq ?_ | refine C_block ?_ | refine C_skip ?_ | refine C_ret ?_ | refine C_exit ?_
              | refine Q_then_ret ?_ | refine Q_then_exit ?_ | refine Q_block ?_ | refine Q_block_ret ?_ | refine Q_block_here ?_ | refine Q_block_on rfl ?_ | refine C_scope ?_ | refine C_label ?_ | refine Q_asn ?_
          (refine C_region ?_
           <;> (first | refine M_int rfl ?_ | refine W_move ?_)
           <;> refine W_add rfl rfl (by first | exact inR_i64 (by omega) (by omega) | exact inR_u8 (by omega) (by omega) | exact inR_u16 (by omega) (by omega)) ?_
           <;> (refine M_assign ?_; (first | refine M_int rfl ?_ | refine W_move ?_))
           <;> refine W_nil ?_)
          repeat'
            first
              | refine Q_then ?_ | refine C_cond_t rfl ?_ | refine C_cond_f rfl ?_ | refine C_seq ?_ | refine C_block ?_ | refine C_skip ?_ | refine C_ret ?_ | refine C_exit ?_
              | refine Q_then_ret ?_ | refine Q_then_exit ?_ | refine Q_block ?_ | refine Q_block_ret ?_ | refine Q_block_here ?_ | refine Q_block_on rfl ?_ | refine C_scope ?_ | refine C_label ?_ | refine Q_asn ?_
          exact ⟨k + 1, ⟨rfl, ⟨rfl, rfl, rfl, congrArg Value.bool (by rw [hg1]; rfl), congrArg Value.bool (by rw [hb1]; rfl), rfl, trivial⟩, ⟨hk2, rfl⟩⟩, by omega⟩
    · repeat'
        first
          | refine Q_then ?_ | refine C_cond_t rfl ?_ | refine C_cond_f rfl ?_ | refine C_seq ?_ | refine C_block ?_ | refine C_skip ?_ | refine C_ret ?_ | refine C_exit ?_
          | refine Q_then_ret ?_ | refine Q_then_exit ?_ | refine Q_block ?_ | refine Q_block_ret ?_ | refine Q_block_here ?_ | refine Q_block_on rfl ?_ | refine C_scope ?_ | refine C_label ?_ | refine Q_asn ?_
      rw [List.take_of_length_le (by omega)]
      have hres : ∀ z', z' ∈ upTo (q + 1) → z' ∈ upTo q ∨ z' = z := fun z' hz' => by rw [upTo_succ, hz] at hz'; simpa using hz'
      cases hga : es.any (fun e => e.good.contains z) with
      | false =>
        (refine C_region ?_
         <;> (first | refine M_bool rfl ?_ | refine W_move ?_)
         <;> (first | refine M_bool rfl ?_ | refine W_move ?_)
         <;> (first | refine W_no rfl ?_ | (refine W_yes rfl ?_; (first | refine M_bool rfl ?_ | refine W_move ?_)))
         <;> (first | refine W_no rfl ?_ | (refine W_yes rfl ?_; refine W_not rfl ?_))
         <;> ((first | refine M_pick_t rfl ?_ | refine M_pick_f rfl ?_); (first | refine M_bool rfl ?_ | refine W_move ?_))
         <;> refine W_nil ?_)
        repeat'
          first
            | refine Q_then ?_ | refine C_cond_t rfl ?_ | refine C_cond_f rfl ?_ | refine C_seq ?_ | refine C_block ?_ | refine C_skip ?_ | refine C_ret ?_ | refine C_exit ?_
            | refine Q_then_ret ?_ | refine Q_then_exit ?_ | refine Q_block ?_ | refine Q_block_ret ?_ | refine Q_block_here ?_ | refine Q_block_on rfl ?_ | refine C_scope ?_ | refine C_label ?_ | refine Q_asn ?_
        (refine C_region ?_
         <;> (first | refine M_int rfl ?_ | refine W_move ?_)
         <;> refine W_add rfl rfl (by first | exact inR_i64 (by omega) (by omega) | exact inR_u8 (by omega) (by omega) | exact inR_u16 (by omega) (by omega)) ?_
         <;> (refine M_assign ?_; (first | refine M_int rfl ?_ | refine W_move ?_))
         <;> refine W_nil ?_)
        repeat'
          first
            | refine Q_then ?_ | refine C_cond_t rfl ?_ | refine C_cond_f rfl ?_ | refine C_seq ?_ | refine C_block ?_ | refine C_skip ?_ | refine C_ret ?_ | refine C_exit ?_
            | refine Q_then_ret ?_ | refine Q_then_exit ?_ | refine Q_block ?_ | refine Q_block_ret ?_ | refine Q_block_here ?_ | refine Q_block_on rfl ?_ | refine C_scope ?_ | refine C_label ?_ | refine Q_asn ?_
        refine ⟨q + 1, ⟨rfl, ⟨rfl, rfl, ?_, trivial⟩, ⟨by omega, rfl, fun z' hz' => ?_⟩⟩, by omega⟩
        · exact congrArg (Value.int .i64) (by omega)
        · rcases hres z' hz' with hh | rfl
          · exact hall z' hh
          · first | rw [hga]; rfl | (rw [hga, hba]; rfl)
      | true =>
        cases hba : es.any (fun e => e.bad.contains z) with
        | true =>
          (refine C_region ?_
           <;> (first | refine M_bool rfl ?_ | refine W_move ?_)
           <;> (first | refine M_bool rfl ?_ | refine W_move ?_)
           <;> (first | refine W_no rfl ?_ | (refine W_yes rfl ?_; (first | refine M_bool rfl ?_ | refine W_move ?_)))
           <;> (first | refine W_no rfl ?_ | (refine W_yes rfl ?_; refine W_not rfl ?_))
           <;> ((first | refine M_pick_t rfl ?_ | refine M_pick_f rfl ?_); (first | refine M_bool rfl ?_ | refine W_move ?_))
           <;> refine W_nil ?_)
          repeat'
            first
              | refine Q_then ?_ | refine C_cond_t rfl ?_ | refine C_cond_f rfl ?_ | refine C_seq ?_ | refine C_block ?_ | refine C_skip ?_ | refine C_ret ?_ | refine C_exit ?_
              | refine Q_then_ret ?_ | refine Q_then_exit ?_ | refine Q_block ?_ | refine Q_block_ret ?_ | refine Q_block_here ?_ | refine Q_block_on rfl ?_ | refine C_scope ?_ | refine C_label ?_ | refine Q_asn ?_
          (refine C_region ?_
           <;> (first | refine M_int rfl ?_ | refine W_move ?_)
           <;> refine W_add rfl rfl (by first | exact inR_i64 (by omega) (by omega) | exact inR_u8 (by omega) (by omega) | exact inR_u16 (by omega) (by omega)) ?_
           <;> (refine M_assign ?_; (first | refine M_int rfl ?_ | refine W_move ?_))
           <;> refine W_nil ?_)
          repeat'
            first
              | refine Q_then ?_ | refine C_cond_t rfl ?_ | refine C_cond_f rfl ?_ | refine C_seq ?_ | refine C_block ?_ | refine C_skip ?_ | refine C_ret ?_ | refine C_exit ?_
              | refine Q_then_ret ?_ | refine Q_then_exit ?_ | refine Q_block ?_ | refine Q_block_ret ?_ | refine Q_block_here ?_ | refine Q_block_on rfl ?_ | refine C_scope ?_ | refine C_label ?_ | refine Q_asn ?_
          refine ⟨q + 1, ⟨rfl, ⟨rfl, rfl, ?_, trivial⟩, ⟨by omega, rfl, fun z' hz' => ?_⟩⟩, by omega⟩
          · exact congrArg (Value.int .i64) (by omega)
          · rcases hres z' hz' with hh | rfl
            · exact hall z' hh
            · first | rw [hga]; rfl | (rw [hga, hba]; rfl)
        | false =>
          (refine C_region ?_
           <;> (first | refine M_bool rfl ?_ | refine W_move ?_)
           <;> (first | refine M_bool rfl ?_ | refine W_move ?_)
           <;> (first | refine W_no rfl ?_ | (refine W_yes rfl ?_; (first | refine M_bool rfl ?_ | refine W_move ?_)))
           <;> (first | refine W_no rfl ?_ | (refine W_yes rfl ?_; refine W_not rfl ?_))
           <;> ((first | refine M_pick_t rfl ?_ | refine M_pick_f rfl ?_); (first | refine M_bool rfl ?_ | refine W_move ?_))
           <;> refine W_nil ?_)
          repeat'
            first
              | refine Q_then ?_ | refine C_cond_t rfl ?_ | refine C_cond_f rfl ?_ | refine C_seq ?_ | refine C_block ?_ | refine C_skip ?_ | refine C_ret ?_ | refine C_exit ?_
              | refine Q_then_ret ?_ | refine Q_then_exit ?_ | refine Q_block ?_ | refine Q_block_ret ?_ | refine Q_block_here ?_ | refine Q_block_on rfl ?_ | refine C_scope ?_ | refine C_label ?_ | refine Q_asn ?_
          (refine C_region ?_
           <;> (refine M_assign ?_; (first | refine M_bool rfl ?_ | refine W_move ?_))
           <;> refine W_nil ?_)
          repeat'
            first
              | refine Q_then ?_ | refine C_cond_t rfl ?_ | refine C_cond_f rfl ?_ | refine C_seq ?_ | refine C_block ?_ | refine C_skip ?_ | refine C_ret ?_ | refine C_exit ?_
              | refine Q_then_ret ?_ | refine Q_then_exit ?_ | refine Q_block ?_ | refine Q_block_ret ?_ | refine Q_block_here ?_ | refine Q_block_on rfl ?_ | refine C_scope ?_ | refine C_label ?_ | refine Q_asn ?_
          refine fin_ret1 rfl ⟨congrArg Value.bool ?_, Ext.refl _⟩
          symm
          have hmem : z ∈ upTo m := by rw [mem_upTo]; simp [inN]; omega
          rw [winsL, Int.toNat_natCast, List.any_eq_true.2 ⟨z, hmem, by rw [hga, hba]; rfl⟩, decide_eq_true (by omega), decide_eq_true (by omega)]; rfl
  · repeat'
      first
        | refine Q_then ?_ | refine C_cond_t rfl ?_ | refine C_cond_f rfl ?_ | refine C_seq ?_ | refine C_block ?_ | refine C_skip ?_ | refine C_ret ?_ | refine C_exit ?_
        | refine Q_then_ret ?_ | refine Q_then_exit ?_ | refine Q_block ?_ | refine Q_block_ret ?_ | refine Q_block_here ?_ | refine Q_block_on rfl ?_ | refine C_scope ?_ | refine C_label ?_ | refine Q_asn ?_
    (refine C_region ?_
     <;> (refine M_assign ?_; (first | refine M_bool rfl ?_ | refine W_move ?_))
     <;> refine W_nil ?_)
    repeat'
      first
        | refine Q_then ?_ | refine C_cond_t rfl ?_ | refine C_cond_f rfl ?_ | refine C_seq ?_ | refine C_block ?_ | refine C_skip ?_ | refine C_ret ?_ | refine C_exit ?_
        | refine Q_then_ret ?_ | refine Q_then_exit ?_ | refine Q_block ?_ | refine Q_block_ret ?_ | refine Q_block_here ?_ | refine Q_block_on rfl ?_ | refine C_scope ?_ | refine C_label ?_ | refine Q_asn ?_
    refine fin_ret1 rfl ⟨congrArg Value.bool ?_, Ext.refl _⟩
    symm
    obtain rfl : q = m := by omega
    rw [winsL, Int.toNat_natCast, List.any_eq_false.2 fun z hz => by rw [hall z hz]; simp, Bool.and_false]

/-! ### Rounds -/
def roundR (r : List Int) (es : List Evt) : List Int × Int := es.foldl (fun s e => ((stepR s.1 e).1, if s.2 = 0 ∨ (stepR s.1 e).2 < s.2 then (stepR s.1 e).2 else s.2)) (r, 0)
theorem roundR_snoc (r : List Int) (es : List Evt) (e : Evt) : roundR r (es ++ [e]) = ((stepR (roundR r es).1 e).1, if (roundR r es).2 = 0 ∨ (stepR (roundR r es).1 e).2 < (roundR r es).2 then (stepR (roundR r es).1 e).2 else (roundR r es).2) := by unfold roundR; rw [List.foldl_append]; rfl

theorem stepR_length_le (r : List Int) (e : Evt) : (stepR r e).1.length ≤ r.length := by
  unfold stepR; split
  · exact Nat.le_of_eq (stepL_length r e)
  · exact Nat.zero_le _
theorem round_any (v1 v2 : Value) (r : List Int) (es : List Evt) (w : World) (h1 : Ints w v1 r) (h2 : EvsAt w v2 es) :
    Fn Try.prog 23 [v1, v2] w fun v w' => ∃ rv, v = .tuple #[rv, .int .i64 (roundR r es).2] ∧ Ints w' rv (roundR r es).1 ∧ Ext w w' := by
  obtain ⟨a, c, rfl, hl, hc, hx⟩ := h2.form
  refine fn_of_wc Try.func23 rfl Try.ntmps23 (Nat.le_of_ble_eq_true rfl) (by kernel_rfl) ?_
  repeat'
    first
      | refine Q_then ?_ | refine C_cond_t rfl ?_ | refine C_cond_f rfl ?_ | refine C_seq ?_ | refine C_block ?_ | refine C_skip ?_ | refine C_ret ?_ | refine C_exit ?_
      | refine Q_then_ret ?_ | refine Q_then_exit ?_ | refine Q_block ?_ | refine Q_block_ret ?_ | refine Q_block_here ?_ | refine Q_block_on rfl ?_ | refine C_scope ?_ | refine C_label ?_ | refine Q_asn ?_
  (refine C_region ?_
   <;> (refine M_assign ?_; (first | refine M_slice rfl ?_ | refine W_move ?_))
   <;> (refine M_assign ?_; (first | refine M_int rfl ?_ | refine W_move ?_))
   <;> refine W_nil ?_)
  repeat'
    first
      | refine Q_then ?_ | refine C_cond_t rfl ?_ | refine C_cond_f rfl ?_ | refine C_seq ?_ | refine C_block ?_ | refine C_skip ?_ | refine C_ret ?_ | refine C_exit ?_
      | refine Q_then_ret ?_ | refine Q_then_exit ?_ | refine Q_block ?_ | refine Q_block_ret ?_ | refine Q_block_here ?_ | refine Q_block_on rfl ?_ | refine C_scope ?_ | refine C_label ?_ | refine Q_asn ?_
  (refine C_region ?_
   <;> (refine M_assign ?_; (first | refine M_int rfl ?_ | refine W_move ?_))
   <;> refine W_nil ?_)
  repeat'
    first
      | refine Q_then ?_ | refine C_cond_t rfl ?_ | refine C_cond_f rfl ?_ | refine C_seq ?_ | refine C_block ?_ | refine C_skip ?_ | refine C_ret ?_ | refine C_exit ?_
      | refine Q_then_ret ?_ | refine Q_then_exit ?_ | refine Q_block ?_ | refine Q_block_ret ?_ | refine Q_block_here ?_ | refine Q_block_on rfl ?_ | refine C_scope ?_ | refine C_label ?_ | refine Q_asn ?_
  (refine C_region ?_
   <;> (refine M_assign ?_; (first | refine M_int rfl ?_ | refine W_move ?_))
   <;> refine W_nil ?_)
  repeat'
    first
      | refine Q_then ?_ | refine C_cond_t rfl ?_ | refine C_cond_f rfl ?_ | refine C_seq ?_ | refine C_block ?_ | refine C_skip ?_ | refine C_ret ?_ | refine C_exit ?_
      | refine Q_then_ret ?_ | refine Q_then_exit ?_ | refine Q_block ?_ | refine Q_block_ret ?_ | refine Q_block_here ?_ | refine Q_block_on rfl ?_ | refine C_scope ?_ | refine C_label ?_ | refine Q_asn ?_
  refine C_loop (α := Nat × Value) (fun x => [(0, x.2), (1, .slice a es.length c), (6, .int .i64 (roundR r (es.take x.1)).2), (7, .int .i64 x.1)]) (fun x W => x.1 ≤ es.length ∧ Ext w W ∧ Ints W x.2 (roundR r (es.take x.1)).1) (fun x => es.length - x.1) (0, v1) ⟨rfl, rfl, rfl, rfl, trivial⟩ ⟨by dsimp only; omega, Ext.refl _, h1⟩ ?_
  rintro ⟨k, v⟩ W f' ⟨hk, hW, hv⟩
  dsimp only at hk hv ⊢
  generalize hs : roundR r (es.take k) = s at *
  obtain ⟨va, vc, rfl, _⟩ := hv.form
  repeat'
    first
      | refine Q_then ?_ | refine C_cond_t rfl ?_ | refine C_cond_f rfl ?_ | refine C_seq ?_ | refine C_block ?_ | refine C_skip ?_ | refine C_ret ?_ | refine C_exit ?_
      | refine Q_then_ret ?_ | refine Q_then_exit ?_ | refine Q_block ?_ | refine Q_block_ret ?_ | refine Q_block_here ?_ | refine Q_block_on rfl ?_ | refine C_scope ?_ | refine C_label ?_ | refine Q_asn ?_
  (refine C_region ?_
   <;> (first | refine M_int rfl ?_ | refine W_move ?_)
   <;> (first | refine M_slice rfl ?_ | refine W_move ?_)
   <;> refine W_len rfl ?_
   <;> (refine W_lss rfl rfl (fun hc => ?_) (fun hc => ?_) <;> try (exfalso; omega))
   <;> refine W_nil ?_)
  · repeat'
      first
        | refine Q_then ?_ | refine C_cond_t rfl ?_ | refine C_cond_f rfl ?_ | refine C_seq ?_ | refine C_block ?_ | refine C_skip ?_ | refine C_ret ?_ | refine C_exit ?_
        | refine Q_then_ret ?_ | refine Q_then_exit ?_ | refine Q_block ?_ | refine Q_block_ret ?_ | refine Q_block_here ?_ | refine Q_block_on rfl ?_ | refine C_scope ?_ | refine C_label ?_ | refine Q_asn ?_
    have hk2 : k < es.length := by omega
    obtain ⟨b, o, rfl, g⟩ := hx (by omega)
    obtain ⟨g1, b1, hcs, he⟩ := g k hk2
    have hcs' := hcs.keep hW (by simp)
    have hts : roundR r (es.take (k + 1)) = ((stepR s.1 es[k]).1, if s.2 = 0 ∨ (stepR s.1 es[k]).2 < s.2 then (stepR s.1 es[k]).2 else s.2) := by rw [List.take_succ_eq_append_getElem hk2, roundR_snoc, hs]
    generalize es[k] = e at *
    (refine C_region ?_
     <;> (first | refine M_slice rfl ?_ | refine W_move ?_)
     <;> (first | refine M_slice rfl ?_ | refine W_move ?_)
     <;> (first | refine M_int rfl ?_ | refine W_move ?_)
     <;> (first | refine W_idx1 rfl rfl rfl (by omega) ?_ | refine W_idx rfl rfl rfl (by omega) ?_ | refine W_indexAddr rfl rfl (by omega) (by omega) ?_))
    refine W_load_agg (L := [g1, b1]) rfl rfl hcs' ?_
    refine W_call (Step_any _ g1 b1 s.1 e _ hv (he.keep hW)) rfl ?_
    rintro _ W2 ⟨rv, rfl, o2, k2⟩
    obtain ⟨ra, rc, rfl⟩ := own_form o2
    have hi2 := Ints.own o2
    ((first | refine M_tuple rfl ?_ | refine W_move ?_)
     <;> refine W_extract rfl rfl ?_
     <;> refine W_extract rfl rfl ?_
     <;> (refine M_assign ?_; (first | refine M_slice rfl ?_ | refine W_move ?_))
     <;> (refine M_assign ?_; (first | refine M_int rfl ?_ | refine W_move ?_))
     <;> refine W_nil ?_)
    repeat'
      first
        | refine Q_then ?_ | refine C_cond_t rfl ?_ | refine C_cond_f rfl ?_ | refine C_seq ?_ | refine C_block ?_ | refine C_skip ?_ | refine C_ret ?_ | refine C_exit ?_
        | refine Q_then_ret ?_ | refine Q_then_exit ?_ | refine Q_block ?_ | refine Q_block_ret ?_ | refine Q_block_here ?_ | refine Q_block_on rfl ?_ | refine C_scope ?_ | refine C_label ?_ | refine Q_asn ?_
    (refine C_region ?_
     <;> (first | refine M_slice rfl ?_ | refine W_move ?_)
     <;> (refine M_assign ?_; (first | refine M_slice rfl ?_ | refine W_move ?_))
     <;> refine W_nil ?_)
    repeat'
      first
        | refine Q_then ?_ | refine C_cond_t rfl ?_ | refine C_cond_f rfl ?_ | refine C_seq ?_ | refine C_block ?_ | refine C_skip ?_ | refine C_ret ?_ | refine C_exit ?_
        | refine Q_then_ret ?_ | refine Q_then_exit ?_ | refine Q_block ?_ | refine Q_block_ret ?_ | refine Q_block_here ?_ | refine Q_block_on rfl ?_ | refine C_scope ?_ | refine C_label ?_ | refine Q_asn ?_
    (refine C_region ?_
     <;> (first | refine M_int rfl ?_ | refine W_move ?_)
     <;> (refine W_eql rfl rfl (fun hc => ?_) (fun hc => ?_) <;> try (exfalso; omega))
     <;> (first | refine M_bool rfl ?_ | refine W_move ?_)
     <;> (first | refine W_no rfl ?_ | (refine W_yes rfl ?_; (first | refine M_int rfl ?_ | refine W_move ?_)))
     <;> (first | refine W_no rfl ?_ | (refine W_yes rfl ?_; (first | refine M_int rfl ?_ | refine W_move ?_)))
     <;> (first | refine W_no rfl ?_ | (refine W_yes rfl ?_; (refine W_lss rfl rfl (fun hc => ?_) (fun hc => ?_) <;> try (exfalso; omega))))
     <;> ((first | refine M_pick_t rfl ?_ | refine M_pick_f rfl ?_); (first | refine M_bool rfl ?_ | refine W_move ?_))
     <;> refine W_nil ?_)
    · repeat'
        first
          | refine Q_then ?_ | refine C_cond_t rfl ?_ | refine C_cond_f rfl ?_ | refine C_seq ?_ | refine C_block ?_ | refine C_skip ?_ | refine C_ret ?_ | refine C_exit ?_
          | refine Q_then_ret ?_ | refine Q_then_exit ?_ | refine Q_block ?_ | refine Q_block_ret ?_ | refine Q_block_here ?_ | refine Q_block_on rfl ?_ | refine C_scope ?_ | refine C_label ?_ | refine Q_asn ?_
      (refine C_region ?_
       <;> (first | refine M_int rfl ?_ | refine W_move ?_)
       <;> (refine M_assign ?_; (first | refine M_int rfl ?_ | refine W_move ?_))
       <;> refine W_nil ?_)
      repeat'
        first
          | refine Q_then ?_ | refine C_cond_t rfl ?_ | refine C_cond_f rfl ?_ | refine C_seq ?_ | refine C_block ?_ | refine C_skip ?_ | refine C_ret ?_ | refine C_exit ?_
          | refine Q_then_ret ?_ | refine Q_then_exit ?_ | refine Q_block ?_ | refine Q_block_ret ?_ | refine Q_block_here ?_ | refine Q_block_on rfl ?_ | refine C_scope ?_ | refine C_label ?_ | refine Q_asn ?_
      (refine C_region ?_
       <;> (first | refine M_int rfl ?_ | refine W_move ?_)
       <;> refine W_add rfl rfl (by first | exact inR_i64 (by omega) (by omega) | exact inR_u8 (by omega) (by omega) | exact inR_u16 (by omega) (by omega)) ?_
       <;> (refine M_assign ?_; (first | refine M_int rfl ?_ | refine W_move ?_))
       <;> refine W_nil ?_)
      repeat'
        first
          | refine Q_then ?_ | refine C_cond_t rfl ?_ | refine C_cond_f rfl ?_ | refine C_seq ?_ | refine C_block ?_ | refine C_skip ?_ | refine C_ret ?_ | refine C_exit ?_
          | refine Q_then_ret ?_ | refine Q_then_exit ?_ | refine Q_block ?_ | refine Q_block_ret ?_ | refine Q_block_here ?_ | refine Q_block_on rfl ?_ | refine C_scope ?_ | refine C_label ?_ | refine Q_asn ?_
      refine ⟨(k + 1, _), ⟨rfl, ⟨rfl, rfl, congrArg (Value.int .i64) ?_, rfl, trivial⟩, ⟨hk2, hW.trans k2, ?_⟩⟩, by dsimp only; omega⟩
      · dsimp only; rw [hts]; dsimp only; rw [if_pos (.inl hc)]
      · dsimp only; rw [hts]; exact hi2
    · repeat'
        first
          | refine Q_then ?_ | refine C_cond_t rfl ?_ | refine C_cond_f rfl ?_ | refine C_seq ?_ | refine C_block ?_ | refine C_skip ?_ | refine C_ret ?_ | refine C_exit ?_
          | refine Q_then_ret ?_ | refine Q_then_exit ?_ | refine Q_block ?_ | refine Q_block_ret ?_ | refine Q_block_here ?_ | refine Q_block_on rfl ?_ | refine C_scope ?_ | refine C_label ?_ | refine Q_asn ?_
      (refine C_region ?_
       <;> (first | refine M_int rfl ?_ | refine W_move ?_)
       <;> (refine M_assign ?_; (first | refine M_int rfl ?_ | refine W_move ?_))
       <;> refine W_nil ?_)
      repeat'
        first
          | refine Q_then ?_ | refine C_cond_t rfl ?_ | refine C_cond_f rfl ?_ | refine C_seq ?_ | refine C_block ?_ | refine C_skip ?_ | refine C_ret ?_ | refine C_exit ?_
          | refine Q_then_ret ?_ | refine Q_then_exit ?_ | refine Q_block ?_ | refine Q_block_ret ?_ | refine Q_block_here ?_ | refine Q_block_on rfl ?_ | refine C_scope ?_ | refine C_label ?_ | refine Q_asn ?_
      (refine C_region ?_
       <;> (first | refine M_int rfl ?_ | refine W_move ?_)
       <;> refine W_add rfl rfl (by first | exact inR_i64 (by omega) (by omega) | exact inR_u8 (by omega) (by omega) | exact inR_u16 (by omega) (by omega)) ?_
       <;> (refine M_assign ?_; (first | refine M_int rfl ?_ | refine W_move ?_))
       <;> refine W_nil ?_)
      repeat'
        first
          | refine Q_then ?_ | refine C_cond_t rfl ?_ | refine C_cond_f rfl ?_ | refine C_seq ?_ | refine C_block ?_ | refine C_skip ?_ | refine C_ret ?_ | refine C_exit ?_
          | refine Q_then_ret ?_ | refine Q_then_exit ?_ | refine Q_block ?_ | refine Q_block_ret ?_ | refine Q_block_here ?_ | refine Q_block_on rfl ?_ | refine C_scope ?_ | refine C_label ?_ | refine Q_asn ?_
      refine ⟨(k + 1, _), ⟨rfl, ⟨rfl, rfl, congrArg (Value.int .i64) ?_, rfl, trivial⟩, ⟨hk2, hW.trans k2, ?_⟩⟩, by dsimp only; omega⟩
      · dsimp only; rw [hts]; dsimp only; rw [if_pos (.inr hc)]
      · dsimp only; rw [hts]; exact hi2
    · repeat'
        first
          | refine Q_then ?_ | refine C_cond_t rfl ?_ | refine C_cond_f rfl ?_ | refine C_seq ?_ | refine C_block ?_ | refine C_skip ?_ | refine C_ret ?_ | refine C_exit ?_
          | refine Q_then_ret ?_ | refine Q_then_exit ?_ | refine Q_block ?_ | refine Q_block_ret ?_ | refine Q_block_here ?_ | refine Q_block_on rfl ?_ | refine C_scope ?_ | refine C_label ?_ | refine Q_asn ?_
      (refine C_region ?_
       <;> (first | refine M_int rfl ?_ | refine W_move ?_)
       <;> refine W_add rfl rfl (by first | exact inR_i64 (by omega) (by omega) | exact inR_u8 (by omega) (by omega) | exact inR_u16 (by omega) (by omega)) ?_
       <;> (refine M_assign ?_; (first | refine M_int rfl ?_ | refine W_move ?_))
       <;> refine W_nil ?_)
      repeat'
        first
          | refine Q_then ?_ | refine C_cond_t rfl ?_ | refine C_cond_f rfl ?_ | refine C_seq ?_ | refine C_block ?_ | refine C_skip ?_ | refine C_ret ?_ | refine C_exit ?_
          | refine Q_then_ret ?_ | refine Q_then_exit ?_ | refine Q_block ?_ | refine Q_block_ret ?_ | refine Q_block_here ?_ | refine Q_block_on rfl ?_ | refine C_scope ?_ | refine C_label ?_ | refine Q_asn ?_
      refine ⟨(k + 1, _), ⟨rfl, ⟨rfl, rfl, congrArg (Value.int .i64) ?_, rfl, trivial⟩, ⟨hk2, hW.trans k2, ?_⟩⟩, by dsimp only; omega⟩
      · dsimp only; rw [hts]; dsimp only; rw [if_neg (by omega)]
      · dsimp only; rw [hts]; exact hi2
  · repeat'
      first
        | refine Q_then ?_ | refine C_cond_t rfl ?_ | refine C_cond_f rfl ?_ | refine C_seq ?_ | refine C_block ?_ | refine C_skip ?_ | refine C_ret ?_ | refine C_exit ?_
        | refine Q_then_ret ?_ | refine Q_then_exit ?_ | refine Q_block ?_ | refine Q_block_ret ?_ | refine Q_block_here ?_ | refine Q_block_on rfl ?_ | refine C_scope ?_ | refine C_label ?_ | refine Q_asn ?_
    (refine C_region ?_
     <;> (first | refine M_slice rfl ?_ | refine W_move ?_)
     <;> (first | refine M_int rfl ?_ | refine W_move ?_)
     <;> (refine M_assign ?_; (first | refine M_slice rfl ?_ | refine W_move ?_))
     <;> (refine M_assign ?_; (first | refine M_int rfl ?_ | refine W_move ?_))
     <;> refine W_nil ?_)
    repeat'
      first
        | refine Q_then ?_ | refine C_cond_t rfl ?_ | refine C_cond_f rfl ?_ | refine C_seq ?_ | refine C_block ?_ | refine C_skip ?_ | refine C_ret ?_ | refine C_exit ?_
        | refine Q_then_ret ?_ | refine Q_then_exit ?_ | refine Q_block ?_ | refine Q_block_ret ?_ | refine Q_block_here ?_ | refine Q_block_on rfl ?_ | refine C_scope ?_ | refine C_label ?_ | refine Q_asn ?_
    rw [List.take_of_length_le (by omega)] at hs
    exact fin_ret2 rfl ⟨.slice va s.1.length vc, by rw [hs]; rfl, by rw [hs]; exact hv, hW⟩
end Go.Proofs.Yticliabmhgofjaa
