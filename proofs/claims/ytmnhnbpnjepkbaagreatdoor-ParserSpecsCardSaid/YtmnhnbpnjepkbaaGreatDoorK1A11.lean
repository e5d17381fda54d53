/- The reference: requirements, signals, specifications, edits compared. The parser: tables, tokens of a text, the deferred calls. The parser: the deferred calls. Conditions: none. -/
import Derived.Test.YtmnhnbpnjepkbaaGreatDoorK1A10

namespace Go.Proofs.YtmnhnbpnjepkbaaGreatDoor
open Go.RowKit
set_option linter.unusedVariables false

theorem rqm_eq {r s : Rqm} : r = s ↔ r.part = s.part ∧ r.name = s.name ∧ r.kind = s.kind ∧ r.formula = s.formula := by
  obtain ⟨a, b, c, d⟩ := r; obtain ⟨a', b', c', d'⟩ := s; simp
theorem sameReq_ok (w : World) (c d : List Value) (r s : Rqm) (hr : reqR.fits anyB w c r) (hs : reqR.fits anyB w d s) : Fn Tryz.prog 48 [.agg c.toArray, .agg d.toArray] w fun v w' => ∃ b : Bool, v = .bool b ∧ (b = true ↔ r = s) ∧ Ext w w' := by
  obtain ⟨c', rfl, hc5, hcf⟩ := hr
  obtain ⟨d', rfl, hd5, hdf⟩ := hs
  obtain ⟨c0, c1, c2, c3, c4, rfl⟩ := cells5 hc5
  obtain ⟨d0, d1, d2, d3, d4, rfl⟩ := cells5 hd5
  refine fn_of_wc Tryz.func48 rfl Tryz.ntmps48 (Nat.le_of_ble_eq_true rfl) (by kernel_rfl) ?_
  repeat' first | refine nx ?_ | refine C_cond_t rfl ?_ | refine C_cond_f rfl ?_ | refine Q_block_on rfl ?_
  (refine C_region ?_; refine W_box (L := [strV r.part, strV r.name, .int .i64 r.kind, c0, c1, c2, c3, c4]) rfl (fun w1 n1 => ?_))
  refine W_box (L := [strV s.part, strV s.name, .int .i64 s.kind, d0, d1, d2, d3, d4]) rfl (fun w2 n2 => ?_)
  have a2 := n1.blk.keep n2.keep (by simp)
  have b2 := n2.blk
  have k2 : Ext w w2 := n1.keep.trans n2.keep
  ((refine M_assign ?_; (first | refine M_bool rfl ?_ | refine W_move ?_))
   <;> refine W_nil ?_)
  repeat' first | refine nx ?_ | refine C_cond_t rfl ?_ | refine C_cond_f rfl ?_ | refine Q_block_on rfl ?_
  have ca : Cells w2 w.heap.size 3 [c0, c1, c2, c3, c4] := by
    have := a2.cells.part 3 5
    simpa using this
  have cb : Cells w2 w1.heap.size 3 [d0, d1, d2, d3, d4] := by
    have := b2.cells.part 3 5
    simpa using this
  (refine C_region ?_
   <;> refine W_fieldAddr rfl ?_
   <;> (first | refine W_load rfl (Blk.cell (by assumption) (by rfl)) ?_ | refine W_load rfl (by assumption) ?_)
   <;> refine W_fieldAddr rfl ?_
   <;> (first | refine W_load rfl (Blk.cell (by assumption) (by rfl)) ?_ | refine W_load rfl (by assumption) ?_)
   <;> refine W_seql rfl rfl (fun hc => ?_) (fun hc => ?_)
   <;> (first | refine M_bool rfl ?_ | refine W_move ?_)
   <;> (first | refine W_no rfl ?_ | (refine W_yes rfl ?_; refine W_fieldAddr rfl ?_))
   <;> (first | refine W_no rfl ?_ | (refine W_yes rfl ?_; (first | refine W_load rfl (Blk.cell (by assumption) (by rfl)) ?_ | refine W_load rfl (by assumption) ?_)))
   <;> (first | refine W_no rfl ?_ | (refine W_yes rfl ?_; refine W_fieldAddr rfl ?_))
   <;> (first | refine W_no rfl ?_ | (refine W_yes rfl ?_; (first | refine W_load rfl (Blk.cell (by assumption) (by rfl)) ?_ | refine W_load rfl (by assumption) ?_)))
   <;> (first | refine W_no rfl ?_ | (refine W_yes rfl ?_; refine W_seql rfl rfl (fun hc => ?_) (fun hc => ?_)))
   <;> ((first | refine M_pick_t rfl ?_ | refine M_pick_f rfl ?_); (first | refine M_bool rfl ?_ | refine W_move ?_))
   <;> (first | refine M_bool rfl ?_ | refine W_move ?_)
   <;> (first | refine W_no rfl ?_ | (refine W_yes rfl ?_; refine W_fieldAddr rfl ?_))
   <;> (first | refine W_no rfl ?_ | (refine W_yes rfl ?_; (first | refine W_load rfl (Blk.cell (by assumption) (by rfl)) ?_ | refine W_load rfl (by assumption) ?_)))
   <;> (first | refine W_no rfl ?_ | (refine W_yes rfl ?_; refine W_fieldAddr rfl ?_))
   <;> (first | refine W_no rfl ?_ | (refine W_yes rfl ?_; (first | refine W_load rfl (Blk.cell (by assumption) (by rfl)) ?_ | refine W_load rfl (by assumption) ?_)))
   <;> (first | refine W_no rfl ?_ | (refine W_yes rfl ?_; (refine W_eql rfl rfl (fun hc => ?_) (fun hc => ?_) <;> try (exfalso; omega))))
   <;> ((first | refine M_pick_t rfl ?_ | refine M_pick_f rfl ?_); (first | refine M_bool rfl ?_ | refine W_move ?_))
   <;> (first | refine M_bool rfl ?_ | refine W_move ?_)
   <;> (first | refine W_no rfl ?_ | (refine W_yes rfl ?_; refine W_fieldAddr rfl ?_)))
  · (refine W_yes rfl ?_; refine W_load_agg (L := [c0, c1, c2, c3, c4]) rfl rfl ca ?_)
    ((first | refine W_no rfl ?_ | (refine W_yes rfl ?_; refine W_fieldAddr rfl ?_)))
    (refine W_yes rfl ?_; refine W_load_agg (L := [d0, d1, d2, d3, d4]) rfl rfl cb ?_)
    (refine W_yes rfl ?_; refine W_call (same_ok w2 _ _ r.formula s.formula (hcf.ext k2) (hdf.ext k2)) rfl ?_)
    rintro _ w3 ⟨b, rfl, hb, k3⟩
    (((first | refine M_pick_t rfl ?_ | refine M_pick_f rfl ?_); (first | refine M_bool rfl ?_ | refine W_move ?_))
     <;> (refine M_assign ?_; (first | refine M_bool rfl ?_ | refine W_move ?_))
     <;> refine W_nil ?_)
    repeat' first | refine nx ?_ | refine C_cond_t rfl ?_ | refine C_cond_f rfl ?_ | refine Q_block_on rfl ?_
    exact fin_ret1 rfl ⟨b, rfl, by rw [hb, rqm_eq]; exact ⟨fun h => ⟨by assumption, by assumption, by assumption, h⟩, fun h => h.2.2.2⟩, k2.trans k3⟩
  all_goals
    ((first | refine W_no rfl ?_ | (refine W_yes rfl ?_; (first | refine W_load_aggB rfl (by assumption) (by rfl) ?_ | refine W_load_agg rfl (by rfl) (Blk.cells (by assumption)) ?_)))
     <;> (first | refine W_no rfl ?_ | (refine W_yes rfl ?_; refine W_fieldAddr rfl ?_))
     <;> (first | refine W_no rfl ?_ | (refine W_yes rfl ?_; (first | refine W_load_aggB rfl (by assumption) (by rfl) ?_ | refine W_load_agg rfl (by rfl) (Blk.cells (by assumption)) ?_)))
     <;> refine W_no rfl ?_
     <;> ((first | refine M_pick_t rfl ?_ | refine M_pick_f rfl ?_); (first | refine M_bool rfl ?_ | refine W_move ?_))
     <;> (refine M_assign ?_; (first | refine M_bool rfl ?_ | refine W_move ?_))
     <;> refine W_nil ?_)
    repeat' first | refine nx ?_ | refine C_cond_t rfl ?_ | refine C_cond_f rfl ?_ | refine Q_block_on rfl ?_
    refine fin_ret1 rfl ⟨false, rfl, ?_, k2⟩
    rw [rqm_eq]
    constructor
    · intro h; cases h
    · rintro ⟨h1, h2, h3, h4⟩
      exfalso
      first | exact absurd h1 (by assumption) | exact absurd h2 (by assumption) | exact absurd h3 (by assumption)

theorem Sl.recs {α : Type} {R : Rp α} {ok : Nat → Prop} {w : World} {a : Option Addr} {n cap k sz : Nat} {L : List (List Value)} {l : List α} {c : List Value} (h : Sl ok w (.slice a n cap) n L.flatten) (hR : RsAt R ok w L l) (hsz : R.size = sz) (hk : L[k]? = some c) (hn : k < n) :
    ∃ b o, a = some ⟨b, o, none⟩ ∧ ok b ∧ Cells w b (o + k * sz) c := by
  obtain ⟨a', cap', hv, h1, h2, h3, h4⟩ := h
  cases hv
  obtain ⟨b, o, rfl, hb, hc⟩ := h4.resolve_left (by omega)
  refine ⟨b, o, rfl, hb, fun j v hv => ?_⟩
  have := hc _ _ (flatten_atN sz L k j c v (fun c hc => by rw [hR.len c hc, hsz]) hk hv)
  rwa [← Nat.add_assoc] at this
theorem SlAt.ext {α : Type} {R : Rp α} {ok : Nat → Prop} {w w' : World} {v : Value} {l : List α} (h : SlAt R ok w v l) (k : Ext w w') : SlAt R ok w' v l := by
  obtain ⟨a, c, L, e, h1, h2⟩ := h
  exact ⟨a, c, L, e, h1.ext k, h2.ext k⟩
theorem SlAt.mono {α : Type} {R : Rp α} {ok ok' : Nat → Prop} {w : World} {v : Value} {l : List α} (h : SlAt R ok w v l) (hk : ∀ b, ok b → ok' b) : SlAt R ok' w v l := by
  obtain ⟨a, c, L, e, h1, h2⟩ := h
  exact ⟨a, c, L, e, h1.mono hk, h2.mono hk⟩

theorem sameReqs_ok (w : World) (v v' : Value) (l m : List Rqm) (hl : SlAt reqR anyB w v l) (hm : SlAt reqR anyB w v' m) : Fn Tryz.prog 27 [v, v'] w fun v w' => ∃ b : Bool, v = .bool b ∧ (b = true ↔ l = m) ∧ Ext w w' := by
  obtain ⟨a, c, L, rfl, hS, hF⟩ := hl
  obtain ⟨a', c', M, rfl, hS', hF'⟩ := hm
  have hlm : l.length ≤ 9223372036854775807 := by obtain ⟨_, _, hv, g1, g2, _⟩ := id hS; cases hv; omega
  refine fn_of_wc Tryz.func27 rfl Tryz.ntmps27 (Nat.le_of_ble_eq_true rfl) (by kernel_rfl) ?_
  repeat' first | refine nx ?_ | refine C_cond_t rfl ?_ | refine C_cond_f rfl ?_ | refine Q_block_on rfl ?_
  (refine C_region ?_
   <;> (refine M_assign ?_; (first | refine M_bool rfl ?_ | refine W_move ?_))
   <;> refine W_nil ?_)
  repeat' first | refine nx ?_ | refine C_cond_t rfl ?_ | refine C_cond_f rfl ?_ | refine Q_block_on rfl ?_
  by_cases hlen : l.length = m.length
  · (refine C_region ?_
     <;> (first | refine M_slice rfl ?_ | refine W_move ?_)
     <;> refine W_len rfl ?_
     <;> (first | refine M_slice rfl ?_ | refine W_move ?_)
     <;> refine W_len rfl ?_
     <;> (refine W_neq rfl rfl (fun hc => ?_) (fun hc => ?_) <;> try (exfalso; omega))
     <;> refine W_nil ?_)
    repeat' first | refine nx ?_ | refine C_cond_t rfl ?_ | refine C_cond_f rfl ?_ | refine Q_block_on rfl ?_
    (refine C_region ?_
     <;> (refine M_assign ?_; (first | refine M_int rfl ?_ | refine W_move ?_))
     <;> refine W_nil ?_)
    repeat' first | refine nx ?_ | refine C_cond_t rfl ?_ | refine C_cond_f rfl ?_ | refine Q_block_on rfl ?_
    refine C_loop (α := Nat) (fun k => [(0, .slice a l.length c), (1, .slice a' m.length c'), (5, .int .i64 (k : Int))]) (fun k W => k ≤ l.length ∧ Ext w W ∧ ∀ j, j < k → l[j]? = m[j]?) (fun k => l.length - k) 0 ⟨rfl, rfl, rfl, trivial⟩ ⟨by omega, Ext.refl _, fun j hj => by omega⟩ ?_
    rintro k w3 f3 ⟨hk, k3, hj⟩
    repeat' first | refine nx ?_ | refine C_cond_t rfl ?_ | refine C_cond_f rfl ?_ | refine Q_block_on rfl ?_
    by_cases hlt : k < l.length
    · obtain ⟨x, hx⟩ : ∃ x, l[k]? = some x := ⟨_, List.getElem?_eq_getElem hlt⟩
      obtain ⟨y, hy⟩ : ∃ y, m[k]? = some y := ⟨_, List.getElem?_eq_getElem (by omega)⟩
      obtain ⟨cx, hcx⟩ : ∃ cx, L[k]? = some cx := ⟨_, List.getElem?_eq_getElem (by rw [hF.1]; exact hlt)⟩
      obtain ⟨cy, hcy⟩ : ∃ cy, M[k]? = some cy := ⟨_, List.getElem?_eq_getElem (by rw [hF'.1]; omega)⟩
      have fx := reqR.ext (hF.2 k cx x hcx hx) k3
      have fy := reqR.ext (hF'.2 k cy y hcy hy) k3
      obtain ⟨bx, ox, rfl, _, hcellx⟩ := (hS.ext k3).recs (hF.ext k3) (sz := 8) rfl hcx hlt
      obtain ⟨by', oy, rfl, _, hcelly⟩ := (hS'.ext k3).recs (hF'.ext k3) (sz := 8) rfl hcy (by omega)
      have hlx : cx.length = 8 := reqR.len fx
      have hly : cy.length = 8 := reqR.len fy
      (refine C_region ?_
       <;> (first | refine M_int rfl ?_ | refine W_move ?_)
       <;> (first | refine M_slice rfl ?_ | refine W_move ?_)
       <;> refine W_len rfl ?_
       <;> (refine W_lss rfl rfl (fun hc => ?_) (fun hc => ?_) <;> try (exfalso; omega))
       <;> refine W_nil ?_)
      repeat' first | refine nx ?_ | refine C_cond_t rfl ?_ | refine C_cond_f rfl ?_ | refine Q_block_on rfl ?_
      refine C_drawN (.read 0 (.read 1 (.read 2 (.read 3 (.read 4 (.read 5 (.read 6 (.read 7 (.alt 8 (.read 9 .done) .stop))))))))) mixed (by kernel_rfl) (fun wd kd ed => ⟨Ext wd, ?_, ?_⟩)
      · exact Ext.refl _
      refine D_R rfl rfl (fun W hW => by refine W_move ?_; exact W_nil ⟨rfl, rfl, rfl⟩) ?_
      refine D_R rfl rfl (fun W hW => by refine W_move ?_; exact W_nil ⟨rfl, rfl, rfl⟩) ?_
      refine D_R rfl rfl (fun W hW => by refine W_idx (k := k) rfl rfl rfl (by omega) ?_; exact W_nil ⟨rfl, rfl, rfl⟩) ?_
      refine D_R (v := .agg cx.toArray) rfl rfl (fun W hW => by refine W_load_agg rfl hlx ((hcellx.keep kd (by simp)).keep hW (by simp)) ?_; exact W_nil ⟨rfl, rfl, rfl⟩) ?_
      refine D_R rfl rfl (fun W hW => by refine W_move ?_; exact W_nil ⟨rfl, rfl, rfl⟩) ?_
      refine D_R rfl rfl (fun W hW => by refine W_move ?_; exact W_nil ⟨rfl, rfl, rfl⟩) ?_
      refine D_R rfl rfl (fun W hW => by refine W_idx (k := k) rfl rfl rfl (by omega) ?_; exact W_nil ⟨rfl, rfl, rfl⟩) ?_
      refine D_R (v := .agg cy.toArray) rfl rfl (fun W hW => by refine W_load_agg rfl hly ((hcelly.keep kd (by simp)).keep hW (by simp)) ?_; exact W_nil ⟨rfl, rfl, rfl⟩) ?_
      refine D_E rfl ?_
      refine W_call (sameReq_ok wd cx cy x y (reqR.ext fx kd) (reqR.ext fy kd)) rfl ?_
      rintro _ w6 ⟨b, rfl, hb, k6⟩
      refine W_nil ⟨Ext w6, fun W e => k6.trans e, Ext.refl _, ?_⟩
      ((apply D_R rfl rfl; (intro W hW; (refine M_assign ?_; (first | refine M_bool rfl ?_ | refine W_move ?_)); exact W_nil ⟨rfl, rfl, rfl⟩))
       <;> refine D_nil ?_)
      repeat' first | refine nx ?_ | refine C_cond_t rfl ?_ | refine C_cond_f rfl ?_ | refine Q_block_on rfl ?_
      (refine C_region ?_
       <;> (first | refine M_bool rfl ?_ | refine W_move ?_)
       <;> refine W_not rfl ?_
       <;> refine W_nil ?_)
      cases b with
      | true =>
        have hxy := hb.1 rfl
        subst hxy
        repeat' first | refine nx ?_ | refine C_cond_t rfl ?_ | refine C_cond_f rfl ?_ | refine Q_block_on rfl ?_
        (refine C_region ?_
         <;> (first | refine M_int rfl ?_ | refine W_move ?_)
         <;> refine W_add rfl rfl (by first | exact inR_i64 (by omega) (by omega) | exact inR_u8 (by omega) (by omega) | exact inR_u16 (by omega) (by omega)) ?_
         <;> (refine M_assign ?_; (first | refine M_int rfl ?_ | refine W_move ?_))
         <;> refine W_nil ?_)
        repeat' first | refine nx ?_ | refine C_cond_t rfl ?_ | refine C_cond_f rfl ?_ | refine Q_block_on rfl ?_
        refine ⟨k + 1, ⟨rfl, ⟨rfl, rfl, ?_, trivial⟩, ⟨by omega, (k3.trans kd).trans k6, fun j hjj => ?_⟩⟩, by omega⟩
        · show Value.int .i64 ((k : Int) + 1) = _
          rw [Int.natCast_add]; rfl
        · by_cases hjk : j = k
          · subst hjk; rw [hx, hy]
          · exact hj j (by omega)
      | false =>
        repeat' first | refine nx ?_ | refine C_cond_t rfl ?_ | refine C_cond_f rfl ?_ | refine Q_block_on rfl ?_
        (refine C_region ?_
         <;> (refine M_assign ?_; (first | refine M_bool rfl ?_ | refine W_move ?_))
         <;> refine W_nil ?_)
        repeat' first | refine nx ?_ | refine C_cond_t rfl ?_ | refine C_cond_f rfl ?_ | refine Q_block_on rfl ?_
        refine fin_ret1 rfl ⟨false, rfl, ?_, (k3.trans kd).trans k6⟩
        constructor
        · intro h; cases h
        · intro h
          exfalso
          have e1 : x = y := by rw [h, hy] at hx; exact (Option.some.inj hx).symm
          have := hb.2 e1
          cases this
    · (refine C_region ?_
       <;> (first | refine M_int rfl ?_ | refine W_move ?_)
       <;> (first | refine M_slice rfl ?_ | refine W_move ?_)
       <;> refine W_len rfl ?_
       <;> (refine W_lss rfl rfl (fun hc => ?_) (fun hc => ?_) <;> try (exfalso; omega))
       <;> refine W_nil ?_)
      repeat' first | refine nx ?_ | refine C_cond_t rfl ?_ | refine C_cond_f rfl ?_ | refine Q_block_on rfl ?_
      (refine C_region ?_
       <;> (refine M_assign ?_; (first | refine M_bool rfl ?_ | refine W_move ?_))
       <;> refine W_nil ?_)
      repeat' first | refine nx ?_ | refine C_cond_t rfl ?_ | refine C_cond_f rfl ?_ | refine Q_block_on rfl ?_
      refine fin_ret1 rfl ⟨true, rfl, ?_, k3⟩
      refine ⟨fun _ => List.ext_getElem? fun i => ?_, fun _ => rfl⟩
      by_cases hi : i < k
      · exact hj i hi
      · rw [List.getElem?_eq_none (by omega), List.getElem?_eq_none (by omega)]
  · (refine C_region ?_
     <;> (first | refine M_slice rfl ?_ | refine W_move ?_)
     <;> refine W_len rfl ?_
     <;> (first | refine M_slice rfl ?_ | refine W_move ?_)
     <;> refine W_len rfl ?_
     <;> (refine W_neq rfl rfl (fun hc => ?_) (fun hc => ?_) <;> try (exfalso; omega))
     <;> refine W_nil ?_)
    repeat' first | refine nx ?_ | refine C_cond_t rfl ?_ | refine C_cond_f rfl ?_ | refine Q_block_on rfl ?_
    (refine C_region ?_
     <;> (refine M_assign ?_; (first | refine M_bool rfl ?_ | refine W_move ?_))
     <;> refine W_nil ?_)
    repeat' first | refine nx ?_ | refine C_cond_t rfl ?_ | refine C_cond_f rfl ?_ | refine Q_block_on rfl ?_
    exact fin_ret1 rfl ⟨false, rfl, ⟨fun h => (by cases h), fun h => absurd (by rw [h]) hlen⟩, Ext.refl _⟩

theorem sgn_same (x y : Sgn) : ∀ p ∈ [(0, 9), (1, 4), (2, 3)], ∃ a b, (sgnC x)[p.1]? = some a ∧ (sgnC y)[p.1]? = some b ∧ sameSort Tryz.prog p.2 a b := by
  intro p hp
  simp only [List.mem_cons, List.not_mem_nil, or_false] at hp
  rcases hp with rfl | rfl | rfl
  · exact ⟨_, _, rfl, rfl, Tryz.underlying9⟩
  · exact ⟨_, _, rfl, rfl, Tryz.underlying4⟩
  · exact ⟨_, _, rfl, rfl, rfl, Tryz.underlying3⟩
theorem sgn_eq {x y : Sgn} (h : ∀ p ∈ ([(0, 9), (1, 4), (2, 3)] : List (Nat × TypeId)), (sgnC x)[p.1]? = (sgnC y)[p.1]?) : x = y := by
  have h0 := h (0, 9) (by simp)
  have h1 := h (1, 4) (by simp)
  have h2 := h (2, 3) (by simp)
  cases x; cases y
  simp [sgnC] at h0 h1 h2
  simp [h0, h1, h2]
theorem sameSgn_ok (w : World) (v v' : Value) (l m : List Sgn) (hl : SlAt sgnR anyB w v l) (hm : SlAt sgnR anyB w v' m) : Fn Tryz.prog 26 [v, v'] w fun v w' => ∃ b : Bool, v = .bool b ∧ (b = true ↔ l = m) ∧ Ext w w' := by
  obtain ⟨a, c, L, rfl, hS, hF⟩ := hl
  obtain ⟨a', c', M, rfl, hS', hF'⟩ := hm
  have hlm : l.length ≤ 9223372036854775807 := by obtain ⟨_, _, hv, g1, g2, _⟩ := id hS; cases hv; omega
  refine fn_of_wc Tryz.func26 rfl Tryz.ntmps26 (Nat.le_of_ble_eq_true rfl) (by kernel_rfl) ?_
  repeat' first | refine nx ?_ | refine C_cond_t rfl ?_ | refine C_cond_f rfl ?_ | refine Q_block_on rfl ?_
  (refine C_region ?_
   <;> (refine M_assign ?_; (first | refine M_bool rfl ?_ | refine W_move ?_))
   <;> refine W_nil ?_)
  repeat' first | refine nx ?_ | refine C_cond_t rfl ?_ | refine C_cond_f rfl ?_ | refine Q_block_on rfl ?_
  by_cases hlen : l.length = m.length
  · (refine C_region ?_
     <;> (first | refine M_slice rfl ?_ | refine W_move ?_)
     <;> refine W_len rfl ?_
     <;> (first | refine M_slice rfl ?_ | refine W_move ?_)
     <;> refine W_len rfl ?_
     <;> (refine W_neq rfl rfl (fun hc => ?_) (fun hc => ?_) <;> try (exfalso; omega))
     <;> refine W_nil ?_)
    repeat' first | refine nx ?_ | refine C_cond_t rfl ?_ | refine C_cond_f rfl ?_ | refine Q_block_on rfl ?_
    (refine C_region ?_
     <;> (refine M_assign ?_; (first | refine M_int rfl ?_ | refine W_move ?_))
     <;> refine W_nil ?_)
    repeat' first | refine nx ?_ | refine C_cond_t rfl ?_ | refine C_cond_f rfl ?_ | refine Q_block_on rfl ?_
    refine C_loop (α := Nat) (fun k => [(0, .slice a l.length c), (1, .slice a' m.length c'), (5, .int .i64 (k : Int))]) (fun k W => k ≤ l.length ∧ Ext w W ∧ ∀ j, j < k → l[j]? = m[j]?) (fun k => l.length - k) 0 ⟨rfl, rfl, rfl, trivial⟩ ⟨by omega, Ext.refl _, fun j hj => by omega⟩ ?_
    rintro k w3 f3 ⟨hk, k3, hj⟩
    repeat' first | refine nx ?_ | refine C_cond_t rfl ?_ | refine C_cond_f rfl ?_ | refine Q_block_on rfl ?_
    by_cases hlt : k < l.length
    · obtain ⟨x, hx⟩ : ∃ x, l[k]? = some x := ⟨_, List.getElem?_eq_getElem hlt⟩
      obtain ⟨y, hy⟩ : ∃ y, m[k]? = some y := ⟨_, List.getElem?_eq_getElem (by omega)⟩
      obtain ⟨cx, hcx⟩ : ∃ cx, L[k]? = some cx := ⟨_, List.getElem?_eq_getElem (by rw [hF.1]; exact hlt)⟩
      obtain ⟨cy, hcy⟩ : ∃ cy, M[k]? = some cy := ⟨_, List.getElem?_eq_getElem (by rw [hF'.1]; omega)⟩
      obtain rfl : cx = sgnC x := hF.2 k cx x hcx hx
      obtain rfl : cy = sgnC y := hF'.2 k cy y hcy hy
      obtain ⟨bx, ox, rfl, _, hcellx⟩ := (hS.ext k3).recs (hF.ext k3) (sz := 3) rfl hcx hlt
      obtain ⟨by', oy, rfl, _, hcelly⟩ := (hS'.ext k3).recs (hF'.ext k3) (sz := 3) rfl hcy (by omega)
      (refine C_region ?_
       <;> (first | refine M_int rfl ?_ | refine W_move ?_)
       <;> (first | refine M_slice rfl ?_ | refine W_move ?_)
       <;> refine W_len rfl ?_
       <;> (refine W_lss rfl rfl (fun hc => ?_) (fun hc => ?_) <;> try (exfalso; omega))
       <;> refine W_nil ?_)
      repeat' first | refine nx ?_ | refine C_cond_t rfl ?_ | refine C_cond_f rfl ?_ | refine Q_block_on rfl ?_
      refine C_drawN (.read 0 (.read 1 (.read 2 (.read 3 (.read 4 (.read 5 (.read 6 (.read 7 (.read 8 .done))))))))) mixed (by kernel_rfl) (fun wd kd ed => ⟨fun W => W = wd, ?_, ?_⟩)
      · rfl
      refine D_R rfl rfl (fun W hW => by refine W_move ?_; exact W_nil ⟨rfl, rfl, rfl⟩) ?_
      refine D_R rfl rfl (fun W hW => by refine W_move ?_; exact W_nil ⟨rfl, rfl, rfl⟩) ?_
      refine D_R rfl rfl (fun W hW => by refine W_idx (k := k) rfl rfl rfl (by omega) ?_; exact W_nil ⟨rfl, rfl, rfl⟩) ?_
      refine D_R (v := .agg (sgnC x).toArray) rfl rfl (fun W hW => by subst hW; refine W_load_agg rfl rfl (hcellx.keep kd (by simp)) ?_; exact W_nil ⟨rfl, rfl, rfl⟩) ?_
      refine D_R rfl rfl (fun W hW => by refine W_move ?_; exact W_nil ⟨rfl, rfl, rfl⟩) ?_
      refine D_R rfl rfl (fun W hW => by refine W_move ?_; exact W_nil ⟨rfl, rfl, rfl⟩) ?_
      refine D_R rfl rfl (fun W hW => by refine W_idx (k := k) rfl rfl rfl (by omega) ?_; exact W_nil ⟨rfl, rfl, rfl⟩) ?_
      refine D_R (v := .agg (sgnC y).toArray) rfl rfl (fun W hW => by subst hW; refine W_load_agg rfl rfl (hcelly.keep kd (by simp)) ?_; exact W_nil ⟨rfl, rfl, rfl⟩) ?_
      by_cases hxy : x = y
      · subst hxy
        refine D_R (v := .bool false) rfl rfl (fun W hW => ?_) ?_
        · refine W_flNeq (xs := sgnC x) (ys := sgnC x) rfl rfl (sgn_same x x) (fun r hr => ?_)
          obtain rfl : r = true := hr.2 fun _ _ => rfl
          exact W_nil ⟨rfl, rfl, rfl⟩
        refine D_nil ?_
        repeat' first | refine nx ?_ | refine C_cond_t rfl ?_ | refine C_cond_f rfl ?_ | refine Q_block_on rfl ?_
        (refine C_region ?_
         <;> (first | refine M_int rfl ?_ | refine W_move ?_)
         <;> refine W_add rfl rfl (by first | exact inR_i64 (by omega) (by omega) | exact inR_u8 (by omega) (by omega) | exact inR_u16 (by omega) (by omega)) ?_
         <;> (refine M_assign ?_; (first | refine M_int rfl ?_ | refine W_move ?_))
         <;> refine W_nil ?_)
        repeat' first | refine nx ?_ | refine C_cond_t rfl ?_ | refine C_cond_f rfl ?_ | refine Q_block_on rfl ?_
        refine ⟨k + 1, ⟨rfl, ⟨rfl, rfl, ?_, trivial⟩, ⟨by omega, k3.trans kd, fun j hjj => ?_⟩⟩, by omega⟩
        · show Value.int .i64 ((k : Int) + 1) = _
          rw [Int.natCast_add]; rfl
        · by_cases hjk : j = k
          · subst hjk; rw [hx, hy]
          · exact hj j (by omega)
      · refine D_R (v := .bool true) rfl rfl (fun W hW => ?_) ?_
        · refine W_flNeq (xs := sgnC x) (ys := sgnC y) rfl rfl (sgn_same x y) (fun r hr => ?_)
          obtain rfl : r = false := by
            cases r with
            | false => rfl
            | true => exact absurd (sgn_eq (hr.1 rfl)) hxy
          exact W_nil ⟨rfl, rfl, rfl⟩
        refine D_nil ?_
        repeat' first | refine nx ?_ | refine C_cond_t rfl ?_ | refine C_cond_f rfl ?_ | refine Q_block_on rfl ?_
        (refine C_region ?_
         <;> (refine M_assign ?_; (first | refine M_bool rfl ?_ | refine W_move ?_))
         <;> refine W_nil ?_)
        repeat' first | refine nx ?_ | refine C_cond_t rfl ?_ | refine C_cond_f rfl ?_ | refine Q_block_on rfl ?_
        refine fin_ret1 rfl ⟨false, rfl, ?_, k3.trans kd⟩
        constructor
        · intro h; cases h
        · intro h
          exfalso
          apply hxy
          rw [h, hy] at hx; exact (Option.some.inj hx).symm
    · (refine C_region ?_
       <;> (first | refine M_int rfl ?_ | refine W_move ?_)
       <;> (first | refine M_slice rfl ?_ | refine W_move ?_)
       <;> refine W_len rfl ?_
       <;> (refine W_lss rfl rfl (fun hc => ?_) (fun hc => ?_) <;> try (exfalso; omega))
       <;> refine W_nil ?_)
      repeat' first | refine nx ?_ | refine C_cond_t rfl ?_ | refine C_cond_f rfl ?_ | refine Q_block_on rfl ?_
      (refine C_region ?_
       <;> (refine M_assign ?_; (first | refine M_bool rfl ?_ | refine W_move ?_))
       <;> refine W_nil ?_)
      repeat' first | refine nx ?_ | refine C_cond_t rfl ?_ | refine C_cond_f rfl ?_ | refine Q_block_on rfl ?_
      refine fin_ret1 rfl ⟨true, rfl, ?_, k3⟩
      refine ⟨fun _ => List.ext_getElem? fun i => ?_, fun _ => rfl⟩
      by_cases hi : i < k
      · exact hj i hi
      · rw [List.getElem?_eq_none (by omega), List.getElem?_eq_none (by omega)]
  · (refine C_region ?_
     <;> (first | refine M_slice rfl ?_ | refine W_move ?_)
     <;> refine W_len rfl ?_
     <;> (first | refine M_slice rfl ?_ | refine W_move ?_)
     <;> refine W_len rfl ?_
     <;> (refine W_neq rfl rfl (fun hc => ?_) (fun hc => ?_) <;> try (exfalso; omega))
     <;> refine W_nil ?_)
    repeat' first | refine nx ?_ | refine C_cond_t rfl ?_ | refine C_cond_f rfl ?_ | refine Q_block_on rfl ?_
    (refine C_region ?_
     <;> (refine M_assign ?_; (first | refine M_bool rfl ?_ | refine W_move ?_))
     <;> refine W_nil ?_)
    repeat' first | refine nx ?_ | refine C_cond_t rfl ?_ | refine C_cond_f rfl ?_ | refine Q_block_on rfl ?_
    exact fin_ret1 rfl ⟨false, rfl, ⟨fun h => (by cases h), fun h => absurd (by rw [h]) hlen⟩, Ext.refl _⟩

theorem spc_eq {r s : Spc} : r = s ↔ r.sigs = s.sigs ∧ r.reqs = s.reqs := by
  obtain ⟨a, b⟩ := r; obtain ⟨a', b'⟩ := s; simp
theorem sameSpec_ok (w : World) (c d : List Value) (r s : Spc) (hr : spcR.fits anyB w c r) (hs : spcR.fits anyB w d s) : Fn Tryz.prog 33 [.agg c.toArray, .agg d.toArray] w fun v w' => ∃ b : Bool, v = .bool b ∧ (b = true ↔ r = s) ∧ Ext w w' := by
  obtain ⟨sv, rv, rfl, h1, h2⟩ := hr
  obtain ⟨sv', rv', rfl, h1', h2'⟩ := hs
  have e1 := h1
  have e2 := h2
  have e1' := h1'
  have e2' := h2'
  obtain ⟨_, _, _, rfl, _⟩ := e1
  obtain ⟨_, _, _, rfl, _⟩ := e2
  obtain ⟨_, _, _, rfl, _⟩ := e1'
  obtain ⟨_, _, _, rfl, _⟩ := e2'
  refine fn_of_wc Tryz.func33 rfl Tryz.ntmps33 (Nat.le_of_ble_eq_true rfl) (by kernel_rfl) ?_
  repeat' first | refine nx ?_ | refine C_cond_t rfl ?_ | refine C_cond_f rfl ?_ | refine Q_block_on rfl ?_
  (refine C_region ?_; refine W_box (L := [_, _]) rfl (fun w1 n1 => ?_))
  refine W_box (L := [_, _]) rfl (fun w2 n2 => ?_)
  have a2 := n1.blk.keep n2.keep (by simp)
  have b2 := n2.blk
  have k2 : Ext w w2 := n1.keep.trans n2.keep
  ((refine M_assign ?_; (first | refine M_bool rfl ?_ | refine W_move ?_))
   <;> refine W_nil ?_)
  repeat' first | refine nx ?_ | refine C_cond_t rfl ?_ | refine C_cond_f rfl ?_ | refine Q_block_on rfl ?_
  (refine C_region ?_
   <;> refine W_fieldAddr rfl ?_
   <;> (first | refine W_load rfl (Blk.cell (by assumption) (by rfl)) ?_ | refine W_load rfl (by assumption) ?_)
   <;> refine W_fieldAddr rfl ?_
   <;> (first | refine W_load rfl (Blk.cell (by assumption) (by rfl)) ?_ | refine W_load rfl (by assumption) ?_))
  -- at operation 4: <dst=(some 9) op=(call <callee=(value (func 26)) args=[(tmp 6), (tmp 8)] argTypes=[33, 33]>) type=4 guard=none>
  refine W_call (sameSgn_ok w2 _ _ _ _ (h1.ext k2) (h1'.ext k2)) rfl ?_
  rintro _ w3 ⟨b, rfl, hb, k3⟩
  have a3 := a2.keep k3 (by simp)
  have b3 := b2.keep k3 (by simp)
  cases b with
  | true =>
    ((first | refine M_bool rfl ?_ | refine W_move ?_)
     <;> (first | refine W_no rfl ?_ | (refine W_yes rfl ?_; refine W_fieldAddr rfl ?_))
     <;> (first | refine W_no rfl ?_ | (refine W_yes rfl ?_; (first | refine W_load rfl (Blk.cell (by assumption) (by rfl)) ?_ | refine W_load rfl (by assumption) ?_)))
     <;> (first | refine W_no rfl ?_ | (refine W_yes rfl ?_; refine W_fieldAddr rfl ?_))
     <;> (first | refine W_no rfl ?_ | (refine W_yes rfl ?_; (first | refine W_load rfl (Blk.cell (by assumption) (by rfl)) ?_ | refine W_load rfl (by assumption) ?_))))
    -- at operation 10: <dst=(some 15) op=(call <callee=(value (func 27)) args=[(tmp 12), (tmp 14)] argTypes=[34, 34]>) type=4 guard=(some [5, true])>
    (refine W_yes rfl ?_; refine W_call (sameReqs_ok w3 _ _ _ _ ((h2.ext k2).ext k3) ((h2'.ext k2).ext k3)) rfl ?_)
    rintro _ w4 ⟨b, rfl, hb2, k4⟩
    (((first | refine M_pick_t rfl ?_ | refine M_pick_f rfl ?_); (first | refine M_bool rfl ?_ | refine W_move ?_))
     <;> (refine M_assign ?_; (first | refine M_bool rfl ?_ | refine W_move ?_))
     <;> refine W_nil ?_)
    repeat' first | refine nx ?_ | refine C_cond_t rfl ?_ | refine C_cond_f rfl ?_ | refine Q_block_on rfl ?_
    exact fin_ret1 rfl ⟨b, rfl, by rw [hb2, spc_eq]; exact ⟨fun h => ⟨hb.1 rfl, h⟩, fun h => h.2⟩, (k2.trans k3).trans k4⟩
  | false =>
    ((first | refine M_bool rfl ?_ | refine W_move ?_)
     <;> (first | refine W_no rfl ?_ | (refine W_yes rfl ?_; refine W_fieldAddr rfl ?_))
     <;> (first | refine W_no rfl ?_ | (refine W_yes rfl ?_; (first | refine W_load rfl (Blk.cell (by assumption) (by rfl)) ?_ | refine W_load rfl (by assumption) ?_)))
     <;> (first | refine W_no rfl ?_ | (refine W_yes rfl ?_; refine W_fieldAddr rfl ?_))
     <;> (first | refine W_no rfl ?_ | (refine W_yes rfl ?_; (first | refine W_load rfl (Blk.cell (by assumption) (by rfl)) ?_ | refine W_load rfl (by assumption) ?_))))
    -- at operation 10: <dst=(some 15) op=(call <callee=(value (func 27)) args=[(tmp 12), (tmp 14)] argTypes=[34, 34]>) type=4 guard=(some [5, true])>
    (refine W_no rfl ?_
     <;> ((first | refine M_pick_t rfl ?_ | refine M_pick_f rfl ?_); (first | refine M_bool rfl ?_ | refine W_move ?_))
     <;> (refine M_assign ?_; (first | refine M_bool rfl ?_ | refine W_move ?_))
     <;> refine W_nil ?_)
    repeat' first | refine nx ?_ | refine C_cond_t rfl ?_ | refine C_cond_f rfl ?_ | refine Q_block_on rfl ?_
    refine fin_ret1 rfl ⟨false, rfl, ?_, k2.trans k3⟩
    rw [spc_eq]
    exact ⟨fun h => (by cases h), fun h => absurd (hb.2 h.1) (by simp)⟩
theorem edt_eq {r s : Edt} : r = s ↔ r.kind = s.kind ∧ r.req = s.req := by
  obtain ⟨a, b⟩ := r; obtain ⟨a', b'⟩ := s; simp
theorem sameEdit_ok (w : World) (c d : List Value) (r s : Edt) (hr : edtR.fits anyB w c r) (hs : edtR.fits anyB w d s) : Fn Tryz.prog 28 [.agg c.toArray, .agg d.toArray] w fun v w' => ∃ b : Bool, v = .bool b ∧ (b = true ↔ r = s) ∧ Ext w w' := by
  obtain ⟨c, rfl, hcr⟩ := hr
  obtain ⟨d, rfl, hdr⟩ := hs
  have hcl : c.length = 8 := reqR.len hcr
  have hdl : d.length = 8 := reqR.len hdr
  refine fn_of_wc Tryz.func28 rfl Tryz.ntmps28 (Nat.le_of_ble_eq_true rfl) (by kernel_rfl) ?_
  repeat' first | refine nx ?_ | refine C_cond_t rfl ?_ | refine C_cond_f rfl ?_ | refine Q_block_on rfl ?_
  (refine C_region ?_; refine W_box (L := .int .i64 r.kind :: c) rfl (fun w1 n1 => ?_))
  refine W_box (L := .int .i64 s.kind :: d) rfl (fun w2 n2 => ?_)
  have a2 := n1.blk.keep n2.keep (by simp)
  have b2 := n2.blk
  have k2 : Ext w w2 := n1.keep.trans n2.keep
  have ca : Cells w2 w.heap.size 1 c := by
    have := a2.cells.part 1 8
    simp only [List.drop_succ_cons, List.drop_zero, Nat.zero_add] at this
    rwa [List.take_of_length_le (by omega)] at this
  have cb : Cells w2 w1.heap.size 1 d := by
    have := b2.cells.part 1 8
    simp only [List.drop_succ_cons, List.drop_zero, Nat.zero_add] at this
    rwa [List.take_of_length_le (by omega)] at this
  ((refine M_assign ?_; (first | refine M_bool rfl ?_ | refine W_move ?_))
   <;> refine W_nil ?_)
  repeat' first | refine nx ?_ | refine C_cond_t rfl ?_ | refine C_cond_f rfl ?_ | refine Q_block_on rfl ?_
  by_cases hk : r.kind = s.kind
  · (refine C_region ?_
     <;> refine W_fieldAddr rfl ?_
     <;> (first | refine W_load rfl (Blk.cell (by assumption) (by rfl)) ?_ | refine W_load rfl (by assumption) ?_)
     <;> refine W_fieldAddr rfl ?_
     <;> (first | refine W_load rfl (Blk.cell (by assumption) (by rfl)) ?_ | refine W_load rfl (by assumption) ?_)
     <;> (refine W_eql rfl rfl (fun hc => ?_) (fun hc => ?_) <;> try (exfalso; omega))
     <;> (first | refine M_bool rfl ?_ | refine W_move ?_)
     <;> (first | refine W_no rfl ?_ | (refine W_yes rfl ?_; refine W_fieldAddr rfl ?_)))
    (refine W_yes rfl ?_; refine W_load_agg (L := c) rfl hcl ca ?_)
    ((first | refine W_no rfl ?_ | (refine W_yes rfl ?_; refine W_fieldAddr rfl ?_)))
    (refine W_yes rfl ?_; refine W_load_agg (L := d) rfl hdl cb ?_)
    (refine W_yes rfl ?_; refine W_call (sameReq_ok w2 c d r.req s.req (reqR.ext hcr k2) (reqR.ext hdr k2)) rfl ?_)
    rintro _ w3 ⟨b, rfl, hb, k3⟩
    (((first | refine M_pick_t rfl ?_ | refine M_pick_f rfl ?_); (first | refine M_bool rfl ?_ | refine W_move ?_))
     <;> (refine M_assign ?_; (first | refine M_bool rfl ?_ | refine W_move ?_))
     <;> refine W_nil ?_)
    repeat' first | refine nx ?_ | refine C_cond_t rfl ?_ | refine C_cond_f rfl ?_ | refine Q_block_on rfl ?_
    exact fin_ret1 rfl ⟨b, rfl, by rw [hb, edt_eq]; exact ⟨fun h => ⟨hk, h⟩, fun h => h.2⟩, k2.trans k3⟩
  · (refine C_region ?_
     <;> refine W_fieldAddr rfl ?_
     <;> (first | refine W_load rfl (Blk.cell (by assumption) (by rfl)) ?_ | refine W_load rfl (by assumption) ?_)
     <;> refine W_fieldAddr rfl ?_
     <;> (first | refine W_load rfl (Blk.cell (by assumption) (by rfl)) ?_ | refine W_load rfl (by assumption) ?_)
     <;> (refine W_eql rfl rfl (fun hc => ?_) (fun hc => ?_) <;> try (exfalso; omega))
     <;> (first | refine M_bool rfl ?_ | refine W_move ?_)
     <;> (first | refine W_no rfl ?_ | (refine W_yes rfl ?_; refine W_fieldAddr rfl ?_)))
    ((first | refine W_no rfl ?_ | (refine W_yes rfl ?_; (first | refine W_load_aggB rfl (by assumption) (by rfl) ?_ | refine W_load_agg rfl (by rfl) (Blk.cells (by assumption)) ?_)))
     <;> (first | refine W_no rfl ?_ | (refine W_yes rfl ?_; refine W_fieldAddr rfl ?_))
     <;> (first | refine W_no rfl ?_ | (refine W_yes rfl ?_; (first | refine W_load_aggB rfl (by assumption) (by rfl) ?_ | refine W_load_agg rfl (by rfl) (Blk.cells (by assumption)) ?_)))
     <;> refine W_no rfl ?_
     <;> ((first | refine M_pick_t rfl ?_ | refine M_pick_f rfl ?_); (first | refine M_bool rfl ?_ | refine W_move ?_))
     <;> (refine M_assign ?_; (first | refine M_bool rfl ?_ | refine W_move ?_))
     <;> refine W_nil ?_)
    repeat' first | refine nx ?_ | refine C_cond_t rfl ?_ | refine C_cond_f rfl ?_ | refine Q_block_on rfl ?_
    refine fin_ret1 rfl ⟨false, rfl, ?_, k2⟩
    rw [edt_eq]
    exact ⟨fun h => (by cases h), fun h => absurd h.1 hk⟩
end Go.Proofs.YtmnhnbpnjepkbaaGreatDoor

namespace Go.Proofs.YtmnhnbpnjepkbaaGreatDoor
open Go.RowKit
set_option linter.unusedVariables false

/-! ### Tables of operators -/
theorem infixes_ok (w : World) : Fn Tryz.prog 61 [] w fun v w' => ∃ m, v = .map (some m) ∧ w.heap.size ≤ m ∧ Ext w w' ∧ SMap w' m (tabV infixT) := by
  refine fn_of_wc Tryz.func61 rfl Tryz.ntmps61 (Nat.le_of_ble_eq_true rfl) (by kernel_rfl) ?_
  repeat' first | refine nx ?_ | refine C_cond_t rfl ?_ | refine C_cond_f rfl ?_ | refine Q_block_on rfl ?_
  (refine C_region ?_
   <;> (refine M_assign ?_; (first | refine M_map rfl ?_ | refine W_move ?_))
   <;> refine W_nil ?_)
  repeat' first | refine nx ?_ | refine C_cond_t rfl ?_ | refine C_cond_f rfl ?_ | refine Q_block_on rfl ?_
  (refine C_region ?_)
  -- at operation 0: <dst=(some 1) op=(makeMap 109 none) type=109 guard=none>
  refine W_makeMapS (fun w1 k1 z1 b1 => ?_)
  (refine W_build (by rfl) (by rfl) ?_)
  -- at operation 2: <dst=none op=(insert 109 (tmp 1) (const (string <data=[85]>)) (tmp 2)) type=0 guard=none>
  refine W_insertS (x := [85]) (y := oprV ⟨9, 0, 0⟩) rfl rfl rfl b1 rfl (fun w2 k2 z2 b2 => ?_)
  (refine W_build (by rfl) (by rfl) ?_)
  -- at operation 4: <dst=none op=(insert 109 (tmp 1) (const (string <data=[82]>)) (tmp 3)) type=0 guard=none>
  refine W_insertS (x := [82]) (y := oprV ⟨10, 0, 0⟩) rfl rfl rfl b2 rfl (fun w3 k3 z3 b3 => ?_)
  (refine W_build (by rfl) (by rfl) ?_)
  -- at operation 6: <dst=none op=(insert 109 (tmp 1) (const (string <data=[83]>)) (tmp 4)) type=0 guard=none>
  refine W_insertS (x := [83]) (y := oprV ⟨16, 16, 0⟩) rfl rfl rfl b3 rfl (fun w4 k4 z4 b4 => ?_)
  (refine W_build (by rfl) (by rfl) ?_)
  -- at operation 8: <dst=none op=(insert 109 (tmp 1) (const (string <data=[84]>)) (tmp 5)) type=0 guard=none>
  refine W_insertS (x := [84]) (y := oprV ⟨17, 17, 1⟩) rfl rfl rfl b4 rfl (fun w5 k5 z5 b5 => ?_)
  ((first | refine M_map rfl ?_ | refine W_move ?_)
   <;> (refine M_assign ?_; (first | refine M_map rfl ?_ | refine W_move ?_))
   <;> refine W_nil ?_)
  repeat' first | refine nx ?_ | refine C_cond_t rfl ?_ | refine C_cond_f rfl ?_ | refine Q_block_on rfl ?_
  exact fin_ret1 rfl ⟨w.heap.size, rfl, Nat.le_refl _, (((k1.keep k2 (by simp)).keep k3 (by simp)).keep k4 (by simp)).keep k5 (by simp), b5⟩
theorem prefixes_ok (w : World) : Fn Tryz.prog 60 [] w fun v w' => ∃ m, v = .map (some m) ∧ w.heap.size ≤ m ∧ Ext w w' ∧ SMap w' m (tabV prefixT) := by
  refine fn_of_wc Tryz.func60 rfl Tryz.ntmps60 (Nat.le_of_ble_eq_true rfl) (by kernel_rfl) ?_
  repeat' first | refine nx ?_ | refine C_cond_t rfl ?_ | refine C_cond_f rfl ?_ | refine Q_block_on rfl ?_
  (refine C_region ?_
   <;> (refine M_assign ?_; (first | refine M_map rfl ?_ | refine W_move ?_))
   <;> refine W_nil ?_)
  repeat' first | refine nx ?_ | refine C_cond_t rfl ?_ | refine C_cond_f rfl ?_ | refine Q_block_on rfl ?_
  (refine C_region ?_)
  -- at operation 0: <dst=(some 1) op=(makeMap 109 none) type=109 guard=none>
  refine W_makeMapS (fun w1 k1 z1 b1 => ?_)
  (refine W_build (by rfl) (by rfl) ?_)
  -- at operation 2: <dst=none op=(insert 109 (tmp 1) (const (string <data=[33]>)) (tmp 2)) type=0 guard=none>
  refine W_insertS (x := [33]) (y := oprV ⟨4, 0, 0⟩) rfl rfl rfl b1 rfl (fun w2 k2 z2 b2 => ?_)
  (refine W_build (by rfl) (by rfl) ?_)
  -- at operation 4: <dst=none op=(insert 109 (tmp 1) (const (string <data=[88]>)) (tmp 3)) type=0 guard=none>
  refine W_insertS (x := [88]) (y := oprV ⟨8, 0, 0⟩) rfl rfl rfl b2 rfl (fun w3 k3 z3 b3 => ?_)
  (refine W_build (by rfl) (by rfl) ?_)
  -- at operation 6: <dst=none op=(insert 109 (tmp 1) (const (string <data=[89]>)) (tmp 4)) type=0 guard=none>
  refine W_insertS (x := [89]) (y := oprV ⟨15, 0, 0⟩) rfl rfl rfl b3 rfl (fun w4 k4 z4 b4 => ?_)
  (refine W_build (by rfl) (by rfl) ?_)
  -- at operation 8: <dst=none op=(insert 109 (tmp 1) (const (string <data=[90]>)) (tmp 5)) type=0 guard=none>
  refine W_insertS (x := [90]) (y := oprV ⟨15, 0, 1⟩) rfl rfl rfl b4 rfl (fun w5 k5 z5 b5 => ?_)
  (refine W_build (by rfl) (by rfl) ?_)
  -- at operation 10: <dst=none op=(insert 109 (tmp 1) (const (string <data=[79]>)) (tmp 6)) type=0 guard=none>
  refine W_insertS (x := [79]) (y := oprV ⟨18, 0, 0⟩) rfl rfl rfl b5 rfl (fun w6 k6 z6 b6 => ?_)
  (refine W_build (by rfl) (by rfl) ?_)
  -- at operation 12: <dst=none op=(insert 109 (tmp 1) (const (string <data=[72]>)) (tmp 7)) type=0 guard=none>
  refine W_insertS (x := [72]) (y := oprV ⟨19, 0, 0⟩) rfl rfl rfl b6 rfl (fun w7 k7 z7 b7 => ?_)
  (refine W_build (by rfl) (by rfl) ?_)
  -- at operation 14: <dst=none op=(insert 109 (tmp 1) (const (string <data=[70]>)) (tmp 8)) type=0 guard=none>
  refine W_insertS (x := [70]) (y := oprV ⟨11, 13, 0⟩) rfl rfl rfl b7 rfl (fun w8 k8 z8 b8 => ?_)
  (refine W_build (by rfl) (by rfl) ?_)
  -- at operation 16: <dst=none op=(insert 109 (tmp 1) (const (string <data=[71]>)) (tmp 9)) type=0 guard=none>
  refine W_insertS (x := [71]) (y := oprV ⟨12, 14, 0⟩) rfl rfl rfl b8 rfl (fun w9 k9 z9 b9 => ?_)
  ((first | refine M_map rfl ?_ | refine W_move ?_)
   <;> (refine M_assign ?_; (first | refine M_map rfl ?_ | refine W_move ?_))
   <;> refine W_nil ?_)
  repeat' first | refine nx ?_ | refine C_cond_t rfl ?_ | refine C_cond_f rfl ?_ | refine Q_block_on rfl ?_
  exact fin_ret1 rfl ⟨w.heap.size, rfl, Nat.le_refl _, (((((((k1.keep k2 (by simp)).keep k3 (by simp)).keep k4 (by simp)).keep k5 (by simp)).keep k6 (by simp)).keep k7 (by simp)).keep k8 (by simp)).keep k9 (by simp), b9⟩

/-! ### The tokens of a text -/
theorem takeWhile_all {p : UInt8 → Bool} : ∀ {l : List UInt8}, (l.takeWhile p).length = l.length → ∀ c ∈ l, p c = true
  | [], _, c, hc => by cases hc
  | x :: l, h, c, hc => by
    rw [List.takeWhile_cons] at h
    cases hp : p x with
    | false => rw [hp] at h; simp at h
    | true =>
      rw [hp] at h
      simp at h
      rcases List.mem_cons.1 hc with rfl | hc
      · exact hp
      · exact takeWhile_all h c hc
theorem Alone.wf {k : Int} {y : List UInt8} (h : Alone k y) : k = 2 → 1 ≤ y.length ∧ y.length ≤ 4 ∧ ∀ c ∈ y, isDig c = true := by
  rintro rfl
  obtain ⟨h1, h2, h3⟩ := h
  refine ⟨h1, ?_⟩
  unfold stepM at h3
  split at h3
  · simp [blankM] at h3
  · simp [commM] at h3
  · unfold nameM at h3
    split at h3
    · cases h3
    · have := (addM_le h3).1; simp at this
  · unfold numM at h3
    split at h3
    · cases h3
    · rename_i hb
      have e := addM_ok h3
      have hd : ((y.takeWhile isDig).length) = y.length := by simpa [whileB] using e.symm
      refine ⟨?_, takeWhile_all hd⟩
      have hb' : numBad y 0 = false := by simpa using hb
      unfold numBad at hb'
      rw [← e] at hb'
      simp at hb'
      omega
  · unfold symM at h3
    split at h3
    · have := (addM_le h3).1; simp at this
    · cases h3
  · cases h3
theorem Reach1.cap {t : List UInt8} {a b : Nat} {ts tsb : List Tok} (h : Reach1 t a ts b tsb) (hc : ts.length ≤ 2000) : tsb.length ≤ 2000 := by
  induction h with
  | refl => exact hc
  | step h hs hr ih =>
    rename_i a a1 b ts ts1 tsb
    refine ih ?_
    rcases step_shape hs with rfl | ⟨k, rfl⟩
    · exact hc
    · have : ts.length ≠ 2000 := by
        intro e
        unfold stepM at hs
        split at hs
        · simp [blankM] at hs
        · simp [commM] at hs
        · unfold nameM at hs
          split at hs
          · cases hs
          · exact (addM_le hs).2 e
        · unfold numM at hs
          split at hs
          · cases hs
          · exact (addM_le hs).2 e
        · unfold symM at hs
          split at hs
          · exact (addM_le hs).2 e
          · cases hs
        · cases hs
      simp; omega
theorem lexM_toks {t : List UInt8} {ts : List Tok} (h : lexM t = .ok ts) : t.length ≤ 6000 ∧ ts.length ≤ 2000 ∧ ∀ x ∈ ts, TokWf x := by
  obtain ⟨hl, hr⟩ := lexM_ok h
  exact ⟨hl, hr.cap (by simp), fun x hx => ((hr.alone (Nat.le_refl _) (fun x hx => by cases hx)) x hx).wf⟩
end Go.Proofs.YtmnhnbpnjepkbaaGreatDoor

namespace Go.Proofs.YtmnhnbpnjepkbaaGreatDoor
open Go.RowKit
set_option linter.unusedVariables false

theorem recRet_F (w : World) (c2 c3 c4 : Nat) : CallsDIn Fence.wide 0 Tryz.prog 59 ([] ++ [pt c2, pt c3, pt c4] : List Value).toArray .returning w (fun e u' w' => match e with | .returned _ => u' = .returning ∧ Ext w w' | _ => False) := by
  refine callsD_rec (u1 := .returning) (v0 := .nilIface) (G := fun _ w' => Ext w w') (args := [pt c2, pt c3, pt c4]) Tryz.func59 rfl Tryz.ntmps59 (by simp) (by decide) (by kernel_rfl) (by kernel_rfl) (.inl ⟨rfl, rfl, rfl⟩) ?_
  refine W_assert_nil (z := .agg #[.int .i64 0, .int .i64 0]) rfl (by kernel_rfl) ?_
  ((first | refine M_tuple rfl ?_ | refine W_move ?_)
   <;> refine W_extract rfl rfl ?_
   <;> refine W_extract rfl rfl ?_)
  -- at operation 5: <dst=(some 3) op=(alloc 107) type=0 guard=none>
  refine W_newAgg (cs := [.int .i64 0, .int .i64 0]) rfl rfl (by rfl) (oneC_all rfl) (fun w2 n2 => ?_)
  ((refine M_assign ?_; (first | refine M_bool rfl ?_ | refine W_move ?_))
   <;> refine W_nil ?_)
  repeat' first | refine nx ?_ | refine C_cond_t rfl ?_ | refine C_cond_f rfl ?_ | refine Q_block_on rfl ?_
  (refine C_region ?_
   <;> (first | refine M_bool rfl ?_ | refine W_move ?_)
   <;> refine W_nil ?_)
  repeat' first | refine nx ?_ | refine C_cond_t rfl ?_ | refine C_cond_f rfl ?_ | refine Q_block_on rfl ?_
  exact fin_end0 rfl n2.keep
theorem recPan_F (w : World) (c2 c3 c4 : Nat) (L2 : List Value) (x3 x4 : Value) (e q : Int) (d2 : Blk w c2 39 L2) (hL2 : L2.length = ([.int .i64 0, strV [], .int .i64 0, .int .i64 0, .slice none 0 0] : List Value).length) (d3 : Blk w c3 25 [x3]) (d4 : Blk w c4 3 [x4]) (h23 : c2 ≠ c3) (h24 : c2 ≠ c4) (h34 : c3 ≠ c4) :
    CallsDIn Fence.wide 0 Tryz.prog 59 ([] ++ [pt c2, pt c3, pt c4] : List Value).toArray (.panicking [{ v := .iface 107 (.agg #[.int .i64 e, .int .i64 q]), recovered := false }]) w
      (fun en u' w' => match en with | .returned _ => u' = .panicking [{ v := .iface 107 (.agg #[.int .i64 e, .int .i64 q]), recovered := true }] ∧ (Keep [c2, c3, c4] w w' ∧ Blk w' c2 39 [.int .i64 0, strV [], .int .i64 0, .int .i64 0, .slice none 0 0] ∧ Blk w' c3 25 [.int .i64 e] ∧ Blk w' c4 3 [.int .i64 q]) | _ => False) := by
  have l2 := d2.lt
  have l3 := d3.lt
  have l4 := d4.lt
  refine callsD_rec (u1 := .panicking [{ v := .iface 107 (.agg #[.int .i64 e, .int .i64 q]), recovered := true }]) (v0 := .iface 107 (.agg #[.int .i64 e, .int .i64 q]))
    (G := fun _ w' => Keep [c2, c3, c4] w w' ∧ Blk w' c2 39 [.int .i64 0, strV [], .int .i64 0, .int .i64 0, .slice none 0 0] ∧ Blk w' c3 25 [.int .i64 e] ∧ Blk w' c4 3 [.int .i64 q]) (args := [pt c2, pt c3, pt c4]) Tryz.func59 rfl Tryz.ntmps59 (by simp) (by decide) (by kernel_rfl) (by kernel_rfl) (.inr ⟨_, rfl, rfl, rfl⟩) ?_
  refine W_assert_yes rfl ?_
  ((first | refine M_tuple rfl ?_ | refine W_move ?_)
   <;> refine W_extract rfl rfl ?_
   <;> refine W_extract rfl rfl ?_)
  -- at operation 5: <dst=(some 3) op=(alloc 107) type=0 guard=none>
  refine W_newAgg (cs := [.int .i64 e, .int .i64 q]) rfl rfl (by rfl) (oneC_all rfl) (fun w2 n2 => ?_)
  have b2 := n2.blk
  have z2 := n2.size
  ((refine M_assign ?_; (first | refine M_bool rfl ?_ | refine W_move ?_))
   <;> refine W_nil ?_)
  repeat' first | refine nx ?_ | refine C_cond_t rfl ?_ | refine C_cond_f rfl ?_ | refine Q_block_on rfl ?_
  (refine C_region ?_
   <;> (first | refine M_bool rfl ?_ | refine W_move ?_)
   <;> refine W_nil ?_)
  repeat' first | refine nx ?_ | refine C_cond_t rfl ?_ | refine C_cond_f rfl ?_ | refine Q_block_on rfl ?_
  (refine C_region ?_)
  -- at operation 0: <dst=(some 5) op=(alloc 39) type=0 guard=none>
  refine W_alloc (fun w3 n3 => ?_)
  have z3 := n3.size
  have b3 : Blk w3 w2.heap.size 39 [.int .i64 0, strV [], .int .i64 0, .int .i64 0, .slice none 0 0] := n3.blk
  replace b2 := b2.keep n3.keep (by simp)
  have k3 : Ext w w3 := n2.keep.trans n3.keep
  replace d2 := d2.keep k3 (by simp)
  replace d3 := d3.keep k3 (by simp)
  replace d4 := d4.keep k3 (by simp)
  refine W_nil ?_
  repeat' first | refine nx ?_ | refine C_cond_t rfl ?_ | refine C_cond_f rfl ?_ | refine Q_block_on rfl ?_
  refine C_drawN (.read 0 (.read 1 (.read 2 (.read 3 (.read 4 (.alt 5 (.alt 6 (.alt 7 .done .stop) .stop) .stop)))))) mixed (by kernel_rfl) (fun wd kd ed => ⟨fun W => W.cell? ⟨w.heap.size, 0, none⟩ = some (.int .i64 e) ∧ W.cell? ⟨w.heap.size, 1, none⟩ = some (.int .i64 q) ∧ Cells W w2.heap.size 0 [.int .i64 0, strV [], .int .i64 0, .int .i64 0, .slice none 0 0], ?_, ?_⟩)
  · exact ⟨(b2.keep kd (by simp)).cell rfl, (b2.keep kd (by simp)).cell rfl, (b3.keep kd (by simp)).cells⟩
  have fc0 : ∀ W : World, (W.cell? ⟨w.heap.size, 0, none⟩ = some (.int .i64 e) ∧ W.cell? ⟨w.heap.size, 1, none⟩ = some (.int .i64 q) ∧ Cells W w2.heap.size 0 [.int .i64 0, strV [], .int .i64 0, .int .i64 0, .slice none 0 0]) → W.cell? ⟨w.heap.size, 0, none⟩ = some (.int .i64 e) := fun W h => h.1
  have fc1 : ∀ W : World, (W.cell? ⟨w.heap.size, 0, none⟩ = some (.int .i64 e) ∧ W.cell? ⟨w.heap.size, 1, none⟩ = some (.int .i64 q) ∧ Cells W w2.heap.size 0 [.int .i64 0, strV [], .int .i64 0, .int .i64 0, .slice none 0 0]) → W.cell? ⟨w.heap.size, 1, none⟩ = some (.int .i64 q) := fun W h => h.2.1
  have fc2 : ∀ W : World, (W.cell? ⟨w.heap.size, 0, none⟩ = some (.int .i64 e) ∧ W.cell? ⟨w.heap.size, 1, none⟩ = some (.int .i64 q) ∧ Cells W w2.heap.size 0 [.int .i64 0, strV [], .int .i64 0, .int .i64 0, .slice none 0 0]) → Cells W w2.heap.size 0 [.int .i64 0, strV [], .int .i64 0, .int .i64 0, .slice none 0 0] := fun W h => h.2.2
  replace b2 := b2.keep kd (by simp)
  replace b3 := b3.keep kd (by simp)
  replace d2 := d2.keep kd (by simp)
  replace d3 := d3.keep kd (by simp)
  replace d4 := d4.keep kd (by simp)
  have k : Keep [c2, c3, c4] w wd := (k3.trans kd).any
  ((apply D_R rfl rfl; (intro W hW; (first | refine W_load rfl (fc0 W hW) ?_ | refine W_load rfl (fc1 W hW) ?_ | refine W_load rfl (fc2 W hW) ?_ | refine W_load_agg rfl (by rfl) (fc0 W hW) ?_ | refine W_load_agg rfl (by rfl) (fc1 W hW) ?_ | refine W_load_agg rfl (by rfl) (fc2 W hW) ?_); exact W_nil ⟨rfl, rfl, rfl⟩))
   <;> (apply D_R rfl rfl; (intro W hW; refine W_fieldAddr rfl ?_; exact W_nil ⟨rfl, rfl, rfl⟩))
   <;> (apply D_R rfl rfl; (intro W hW; (first | refine W_load rfl (fc0 W hW) ?_ | refine W_load rfl (fc1 W hW) ?_ | refine W_load rfl (fc2 W hW) ?_ | refine W_load_agg rfl (by rfl) (fc0 W hW) ?_ | refine W_load_agg rfl (by rfl) (fc1 W hW) ?_ | refine W_load_agg rfl (by rfl) (fc2 W hW) ?_); exact W_nil ⟨rfl, rfl, rfl⟩))
   <;> (apply D_R rfl rfl; (intro W hW; refine W_fieldAddr rfl ?_; exact W_nil ⟨rfl, rfl, rfl⟩))
   <;> (apply D_R rfl rfl; (intro W hW; (first | refine W_load rfl (fc0 W hW) ?_ | refine W_load rfl (fc1 W hW) ?_ | refine W_load rfl (fc2 W hW) ?_ | refine W_load_agg rfl (by rfl) (fc0 W hW) ?_ | refine W_load_agg rfl (by rfl) (fc1 W hW) ?_ | refine W_load_agg rfl (by rfl) (fc2 W hW) ?_); exact W_nil ⟨rfl, rfl, rfl⟩)))
  -- at place 5, operation 5: <dst=none op=(store 39 (tmp 0) (tmp 12)) type=0 guard=none>
  refine D_E rfl ?_
  refine W_store_agg (cs := [.int .i64 0, strV [], .int .i64 0, .int .i64 0, .slice none 0 0]) rfl rfl rfl (oneC_all rfl) d2 (by rw [hL2]; simp) (fun W p => ?_)
  have bb := p.blk
  rw [splice_full L2 [.int .i64 0, strV [], .int .i64 0, .int .i64 0, .slice none 0 0] (by rw [hL2])] at bb
  replace d3 := d3.keep p.keep (by simp; omega)
  replace d4 := d4.keep p.keep (by simp; omega)
  replace b2 := b2.keep p.keep (by simp; omega)
  replace b3 := b3.keep p.keep (by simp; omega)
  replace k := k.trans p.keep (by simp)
  clear d2 p
  have d2 := bb
  refine W_nil ⟨_, fun _ h => h, ⟨b2.cell rfl, b2.cell rfl, b3.cells⟩, ?_⟩
  refine D_E rfl ?_
  refine W_store rfl rfl rfl d3 (by simp) (fun W2 p => ?_)
  have bb3 := p.blk
  replace d2 := d2.keep p.keep (by simp; omega)
  replace d4 := d4.keep p.keep (by simp; omega)
  replace b2 := b2.keep p.keep (by simp; omega)
  replace b3 := b3.keep p.keep (by simp; omega)
  replace k := k.trans p.keep (by simp)
  clear d3 p
  refine W_nil ⟨_, fun _ h => h, ⟨b2.cell rfl, b2.cell rfl, b3.cells⟩, ?_⟩
  refine D_E rfl ?_
  refine W_store rfl rfl rfl d4 (by simp) (fun W3 p => ?_)
  have bb4 := p.blk
  replace d2 := d2.keep p.keep (by simp; omega)
  replace bb3 := bb3.keep p.keep (by simp; omega)
  replace b2 := b2.keep p.keep (by simp; omega)
  replace b3 := b3.keep p.keep (by simp; omega)
  replace k := k.trans p.keep (by simp)
  refine W_nil ⟨_, fun _ h => h, ⟨b2.cell rfl, b2.cell rfl, b3.cells⟩, ?_⟩
  refine D_nil ?_
  repeat' first | refine nx ?_ | refine C_cond_t rfl ?_ | refine C_cond_f rfl ?_ | refine Q_block_on rfl ?_
  exact fin_end0 rfl ⟨k, d2, bb3, bb4⟩
theorem recRet_S (w : World) (c2 c3 c4 : Nat) : CallsDIn Fence.wide 0 Tryz.prog 65 ([] ++ [pt c2, pt c3, pt c4] : List Value).toArray .returning w (fun e u' w' => match e with | .returned _ => u' = .returning ∧ Ext w w' | _ => False) := by
  refine callsD_rec (u1 := .returning) (v0 := .nilIface) (G := fun _ w' => Ext w w') (args := [pt c2, pt c3, pt c4]) Tryz.func65 rfl Tryz.ntmps65 (by simp) (by decide) (by kernel_rfl) (by kernel_rfl) (.inl ⟨rfl, rfl, rfl⟩) ?_
  refine W_assert_nil (z := .agg #[.int .i64 0, .int .i64 0]) rfl (by kernel_rfl) ?_
  ((first | refine M_tuple rfl ?_ | refine W_move ?_)
   <;> refine W_extract rfl rfl ?_
   <;> refine W_extract rfl rfl ?_)
  -- at operation 5: <dst=(some 3) op=(alloc 107) type=0 guard=none>
  refine W_newAgg (cs := [.int .i64 0, .int .i64 0]) rfl rfl (by rfl) (oneC_all rfl) (fun w2 n2 => ?_)
  ((refine M_assign ?_; (first | refine M_bool rfl ?_ | refine W_move ?_))
   <;> refine W_nil ?_)
  repeat' first | refine nx ?_ | refine C_cond_t rfl ?_ | refine C_cond_f rfl ?_ | refine Q_block_on rfl ?_
  (refine C_region ?_
   <;> (first | refine M_bool rfl ?_ | refine W_move ?_)
   <;> refine W_nil ?_)
  repeat' first | refine nx ?_ | refine C_cond_t rfl ?_ | refine C_cond_f rfl ?_ | refine Q_block_on rfl ?_
  exact fin_end0 rfl n2.keep
theorem recPan_S (w : World) (c2 c3 c4 : Nat) (L2 : List Value) (x3 x4 : Value) (e q : Int) (d2 : Blk w c2 36 L2) (hL2 : L2.length = ([.slice none 0 0, .slice none 0 0] : List Value).length) (d3 : Blk w c3 25 [x3]) (d4 : Blk w c4 3 [x4]) (h23 : c2 ≠ c3) (h24 : c2 ≠ c4) (h34 : c3 ≠ c4) :
    CallsDIn Fence.wide 0 Tryz.prog 65 ([] ++ [pt c2, pt c3, pt c4] : List Value).toArray (.panicking [{ v := .iface 107 (.agg #[.int .i64 e, .int .i64 q]), recovered := false }]) w
      (fun en u' w' => match en with | .returned _ => u' = .panicking [{ v := .iface 107 (.agg #[.int .i64 e, .int .i64 q]), recovered := true }] ∧ (Keep [c2, c3, c4] w w' ∧ Blk w' c2 36 [.slice none 0 0, .slice none 0 0] ∧ Blk w' c3 25 [.int .i64 e] ∧ Blk w' c4 3 [.int .i64 q]) | _ => False) := by
  have l2 := d2.lt
  have l3 := d3.lt
  have l4 := d4.lt
  refine callsD_rec (u1 := .panicking [{ v := .iface 107 (.agg #[.int .i64 e, .int .i64 q]), recovered := true }]) (v0 := .iface 107 (.agg #[.int .i64 e, .int .i64 q]))
    (G := fun _ w' => Keep [c2, c3, c4] w w' ∧ Blk w' c2 36 [.slice none 0 0, .slice none 0 0] ∧ Blk w' c3 25 [.int .i64 e] ∧ Blk w' c4 3 [.int .i64 q]) (args := [pt c2, pt c3, pt c4]) Tryz.func65 rfl Tryz.ntmps65 (by simp) (by decide) (by kernel_rfl) (by kernel_rfl) (.inr ⟨_, rfl, rfl, rfl⟩) ?_
  refine W_assert_yes rfl ?_
  ((first | refine M_tuple rfl ?_ | refine W_move ?_)
   <;> refine W_extract rfl rfl ?_
   <;> refine W_extract rfl rfl ?_)
  -- at operation 5: <dst=(some 3) op=(alloc 107) type=0 guard=none>
  refine W_newAgg (cs := [.int .i64 e, .int .i64 q]) rfl rfl (by rfl) (oneC_all rfl) (fun w2 n2 => ?_)
  have b2 := n2.blk
  have z2 := n2.size
  ((refine M_assign ?_; (first | refine M_bool rfl ?_ | refine W_move ?_))
   <;> refine W_nil ?_)
  repeat' first | refine nx ?_ | refine C_cond_t rfl ?_ | refine C_cond_f rfl ?_ | refine Q_block_on rfl ?_
  (refine C_region ?_
   <;> (first | refine M_bool rfl ?_ | refine W_move ?_)
   <;> refine W_nil ?_)
  repeat' first | refine nx ?_ | refine C_cond_t rfl ?_ | refine C_cond_f rfl ?_ | refine Q_block_on rfl ?_
  (refine C_region ?_)
  -- at operation 0: <dst=(some 5) op=(alloc 36) type=0 guard=none>
  refine W_alloc (fun w3 n3 => ?_)
  have z3 := n3.size
  have b3 : Blk w3 w2.heap.size 36 [.slice none 0 0, .slice none 0 0] := n3.blk
  replace b2 := b2.keep n3.keep (by simp)
  have k3 : Ext w w3 := n2.keep.trans n3.keep
  replace d2 := d2.keep k3 (by simp)
  replace d3 := d3.keep k3 (by simp)
  replace d4 := d4.keep k3 (by simp)
  refine W_nil ?_
  repeat' first | refine nx ?_ | refine C_cond_t rfl ?_ | refine C_cond_f rfl ?_ | refine Q_block_on rfl ?_
  refine C_drawN (.read 0 (.read 1 (.read 2 (.read 3 (.read 4 (.alt 5 (.alt 6 (.alt 7 .done .stop) .stop) .stop)))))) mixed (by kernel_rfl) (fun wd kd ed => ⟨fun W => W.cell? ⟨w.heap.size, 0, none⟩ = some (.int .i64 e) ∧ W.cell? ⟨w.heap.size, 1, none⟩ = some (.int .i64 q) ∧ Cells W w2.heap.size 0 [.slice none 0 0, .slice none 0 0], ?_, ?_⟩)
  · exact ⟨(b2.keep kd (by simp)).cell rfl, (b2.keep kd (by simp)).cell rfl, (b3.keep kd (by simp)).cells⟩
  have fc0 : ∀ W : World, (W.cell? ⟨w.heap.size, 0, none⟩ = some (.int .i64 e) ∧ W.cell? ⟨w.heap.size, 1, none⟩ = some (.int .i64 q) ∧ Cells W w2.heap.size 0 [.slice none 0 0, .slice none 0 0]) → W.cell? ⟨w.heap.size, 0, none⟩ = some (.int .i64 e) := fun W h => h.1
  have fc1 : ∀ W : World, (W.cell? ⟨w.heap.size, 0, none⟩ = some (.int .i64 e) ∧ W.cell? ⟨w.heap.size, 1, none⟩ = some (.int .i64 q) ∧ Cells W w2.heap.size 0 [.slice none 0 0, .slice none 0 0]) → W.cell? ⟨w.heap.size, 1, none⟩ = some (.int .i64 q) := fun W h => h.2.1
  have fc2 : ∀ W : World, (W.cell? ⟨w.heap.size, 0, none⟩ = some (.int .i64 e) ∧ W.cell? ⟨w.heap.size, 1, none⟩ = some (.int .i64 q) ∧ Cells W w2.heap.size 0 [.slice none 0 0, .slice none 0 0]) → Cells W w2.heap.size 0 [.slice none 0 0, .slice none 0 0] := fun W h => h.2.2
  replace b2 := b2.keep kd (by simp)
  replace b3 := b3.keep kd (by simp)
  replace d2 := d2.keep kd (by simp)
  replace d3 := d3.keep kd (by simp)
  replace d4 := d4.keep kd (by simp)
  have k : Keep [c2, c3, c4] w wd := (k3.trans kd).any
  ((apply D_R rfl rfl; (intro W hW; (first | refine W_load rfl (fc0 W hW) ?_ | refine W_load rfl (fc1 W hW) ?_ | refine W_load rfl (fc2 W hW) ?_ | refine W_load_agg rfl (by rfl) (fc0 W hW) ?_ | refine W_load_agg rfl (by rfl) (fc1 W hW) ?_ | refine W_load_agg rfl (by rfl) (fc2 W hW) ?_); exact W_nil ⟨rfl, rfl, rfl⟩))
   <;> (apply D_R rfl rfl; (intro W hW; refine W_fieldAddr rfl ?_; exact W_nil ⟨rfl, rfl, rfl⟩))
   <;> (apply D_R rfl rfl; (intro W hW; (first | refine W_load rfl (fc0 W hW) ?_ | refine W_load rfl (fc1 W hW) ?_ | refine W_load rfl (fc2 W hW) ?_ | refine W_load_agg rfl (by rfl) (fc0 W hW) ?_ | refine W_load_agg rfl (by rfl) (fc1 W hW) ?_ | refine W_load_agg rfl (by rfl) (fc2 W hW) ?_); exact W_nil ⟨rfl, rfl, rfl⟩))
   <;> (apply D_R rfl rfl; (intro W hW; refine W_fieldAddr rfl ?_; exact W_nil ⟨rfl, rfl, rfl⟩))
   <;> (apply D_R rfl rfl; (intro W hW; (first | refine W_load rfl (fc0 W hW) ?_ | refine W_load rfl (fc1 W hW) ?_ | refine W_load rfl (fc2 W hW) ?_ | refine W_load_agg rfl (by rfl) (fc0 W hW) ?_ | refine W_load_agg rfl (by rfl) (fc1 W hW) ?_ | refine W_load_agg rfl (by rfl) (fc2 W hW) ?_); exact W_nil ⟨rfl, rfl, rfl⟩)))
  -- at place 5, operation 5: <dst=none op=(store 36 (tmp 0) (tmp 12)) type=0 guard=none>
  refine D_E rfl ?_
  refine W_store_agg (cs := [.slice none 0 0, .slice none 0 0]) rfl rfl rfl (oneC_all rfl) d2 (by rw [hL2]; simp) (fun W p => ?_)
  have bb := p.blk
  rw [splice_full L2 [.slice none 0 0, .slice none 0 0] (by rw [hL2])] at bb
  replace d3 := d3.keep p.keep (by simp; omega)
  replace d4 := d4.keep p.keep (by simp; omega)
  replace b2 := b2.keep p.keep (by simp; omega)
  replace b3 := b3.keep p.keep (by simp; omega)
  replace k := k.trans p.keep (by simp)
  clear d2 p
  have d2 := bb
  refine W_nil ⟨_, fun _ h => h, ⟨b2.cell rfl, b2.cell rfl, b3.cells⟩, ?_⟩
  refine D_E rfl ?_
  refine W_store rfl rfl rfl d3 (by simp) (fun W2 p => ?_)
  have bb3 := p.blk
  replace d2 := d2.keep p.keep (by simp; omega)
  replace d4 := d4.keep p.keep (by simp; omega)
  replace b2 := b2.keep p.keep (by simp; omega)
  replace b3 := b3.keep p.keep (by simp; omega)
  replace k := k.trans p.keep (by simp)
  clear d3 p
  refine W_nil ⟨_, fun _ h => h, ⟨b2.cell rfl, b2.cell rfl, b3.cells⟩, ?_⟩
  refine D_E rfl ?_
  refine W_store rfl rfl rfl d4 (by simp) (fun W3 p => ?_)
  have bb4 := p.blk
  replace d2 := d2.keep p.keep (by simp; omega)
  replace bb3 := bb3.keep p.keep (by simp; omega)
  replace b2 := b2.keep p.keep (by simp; omega)
  replace b3 := b3.keep p.keep (by simp; omega)
  replace k := k.trans p.keep (by simp)
  refine W_nil ⟨_, fun _ h => h, ⟨b2.cell rfl, b2.cell rfl, b3.cells⟩, ?_⟩
  refine D_nil ?_
  repeat' first | refine nx ?_ | refine C_cond_t rfl ?_ | refine C_cond_f rfl ?_ | refine Q_block_on rfl ?_
  exact fin_end0 rfl ⟨k, d2, bb3, bb4⟩
theorem recRet_D (w : World) (c2 c3 c4 : Nat) : CallsDIn Fence.wide 0 Tryz.prog 73 ([] ++ [pt c2, pt c3, pt c4] : List Value).toArray .returning w (fun e u' w' => match e with | .returned _ => u' = .returning ∧ Ext w w' | _ => False) := by
  refine callsD_rec (u1 := .returning) (v0 := .nilIface) (G := fun _ w' => Ext w w') (args := [pt c2, pt c3, pt c4]) Tryz.func73 rfl Tryz.ntmps73 (by simp) (by decide) (by kernel_rfl) (by kernel_rfl) (.inl ⟨rfl, rfl, rfl⟩) ?_
  refine W_assert_nil (z := .agg #[.int .i64 0, .int .i64 0]) rfl (by kernel_rfl) ?_
  ((first | refine M_tuple rfl ?_ | refine W_move ?_)
   <;> refine W_extract rfl rfl ?_
   <;> refine W_extract rfl rfl ?_)
  -- at operation 5: <dst=(some 3) op=(alloc 107) type=0 guard=none>
  refine W_newAgg (cs := [.int .i64 0, .int .i64 0]) rfl rfl (by rfl) (oneC_all rfl) (fun w2 n2 => ?_)
  ((refine M_assign ?_; (first | refine M_bool rfl ?_ | refine W_move ?_))
   <;> refine W_nil ?_)
  repeat' first | refine nx ?_ | refine C_cond_t rfl ?_ | refine C_cond_f rfl ?_ | refine Q_block_on rfl ?_
  (refine C_region ?_
   <;> (first | refine M_bool rfl ?_ | refine W_move ?_)
   <;> refine W_nil ?_)
  repeat' first | refine nx ?_ | refine C_cond_t rfl ?_ | refine C_cond_f rfl ?_ | refine Q_block_on rfl ?_
  exact fin_end0 rfl n2.keep
theorem recPan_D (w : World) (c2 c3 c4 : Nat) (L2 : List Value) (x3 x4 : Value) (e q : Int) (d2 : Blk w c2 43 L2) (hL2 : L2.length = ([.int .i64 0, strV [], strV [], .int .i64 0, .int .i64 0, strV [], .int .i64 0, .int .i64 0, .slice none 0 0] : List Value).length) (d3 : Blk w c3 25 [x3]) (d4 : Blk w c4 3 [x4]) (h23 : c2 ≠ c3) (h24 : c2 ≠ c4) (h34 : c3 ≠ c4) :
    CallsDIn Fence.wide 0 Tryz.prog 73 ([] ++ [pt c2, pt c3, pt c4] : List Value).toArray (.panicking [{ v := .iface 107 (.agg #[.int .i64 e, .int .i64 q]), recovered := false }]) w
      (fun en u' w' => match en with | .returned _ => u' = .panicking [{ v := .iface 107 (.agg #[.int .i64 e, .int .i64 q]), recovered := true }] ∧ (Keep [c2, c3, c4] w w' ∧ Blk w' c2 43 [.int .i64 0, strV [], strV [], .int .i64 0, .int .i64 0, strV [], .int .i64 0, .int .i64 0, .slice none 0 0] ∧ Blk w' c3 25 [.int .i64 e] ∧ Blk w' c4 3 [.int .i64 q]) | _ => False) := by
  have l2 := d2.lt
  have l3 := d3.lt
  have l4 := d4.lt
  refine callsD_rec (u1 := .panicking [{ v := .iface 107 (.agg #[.int .i64 e, .int .i64 q]), recovered := true }]) (v0 := .iface 107 (.agg #[.int .i64 e, .int .i64 q]))
    (G := fun _ w' => Keep [c2, c3, c4] w w' ∧ Blk w' c2 43 [.int .i64 0, strV [], strV [], .int .i64 0, .int .i64 0, strV [], .int .i64 0, .int .i64 0, .slice none 0 0] ∧ Blk w' c3 25 [.int .i64 e] ∧ Blk w' c4 3 [.int .i64 q]) (args := [pt c2, pt c3, pt c4]) Tryz.func73 rfl Tryz.ntmps73 (by simp) (by decide) (by kernel_rfl) (by kernel_rfl) (.inr ⟨_, rfl, rfl, rfl⟩) ?_
  refine W_assert_yes rfl ?_
  ((first | refine M_tuple rfl ?_ | refine W_move ?_)
   <;> refine W_extract rfl rfl ?_
   <;> refine W_extract rfl rfl ?_)
  -- at operation 5: <dst=(some 3) op=(alloc 107) type=0 guard=none>
  refine W_newAgg (cs := [.int .i64 e, .int .i64 q]) rfl rfl (by rfl) (oneC_all rfl) (fun w2 n2 => ?_)
  have b2 := n2.blk
  have z2 := n2.size
  ((refine M_assign ?_; (first | refine M_bool rfl ?_ | refine W_move ?_))
   <;> refine W_nil ?_)
  repeat' first | refine nx ?_ | refine C_cond_t rfl ?_ | refine C_cond_f rfl ?_ | refine Q_block_on rfl ?_
  (refine C_region ?_
   <;> (first | refine M_bool rfl ?_ | refine W_move ?_)
   <;> refine W_nil ?_)
  repeat' first | refine nx ?_ | refine C_cond_t rfl ?_ | refine C_cond_f rfl ?_ | refine Q_block_on rfl ?_
  (refine C_region ?_)
  -- at operation 0: <dst=(some 5) op=(alloc 43) type=0 guard=none>
  refine W_alloc (fun w3 n3 => ?_)
  have z3 := n3.size
  have b3 : Blk w3 w2.heap.size 43 [.int .i64 0, strV [], strV [], .int .i64 0, .int .i64 0, strV [], .int .i64 0, .int .i64 0, .slice none 0 0] := n3.blk
  replace b2 := b2.keep n3.keep (by simp)
  have k3 : Ext w w3 := n2.keep.trans n3.keep
  replace d2 := d2.keep k3 (by simp)
  replace d3 := d3.keep k3 (by simp)
  replace d4 := d4.keep k3 (by simp)
  refine W_nil ?_
  repeat' first | refine nx ?_ | refine C_cond_t rfl ?_ | refine C_cond_f rfl ?_ | refine Q_block_on rfl ?_
  refine C_drawN (.read 0 (.read 1 (.read 2 (.read 3 (.read 4 (.alt 5 (.alt 6 (.alt 7 .done .stop) .stop) .stop)))))) mixed (by kernel_rfl) (fun wd kd ed => ⟨fun W => W.cell? ⟨w.heap.size, 0, none⟩ = some (.int .i64 e) ∧ W.cell? ⟨w.heap.size, 1, none⟩ = some (.int .i64 q) ∧ Cells W w2.heap.size 0 [.int .i64 0, strV [], strV [], .int .i64 0, .int .i64 0, strV [], .int .i64 0, .int .i64 0, .slice none 0 0], ?_, ?_⟩)
  · exact ⟨(b2.keep kd (by simp)).cell rfl, (b2.keep kd (by simp)).cell rfl, (b3.keep kd (by simp)).cells⟩
  have fc0 : ∀ W : World, (W.cell? ⟨w.heap.size, 0, none⟩ = some (.int .i64 e) ∧ W.cell? ⟨w.heap.size, 1, none⟩ = some (.int .i64 q) ∧ Cells W w2.heap.size 0 [.int .i64 0, strV [], strV [], .int .i64 0, .int .i64 0, strV [], .int .i64 0, .int .i64 0, .slice none 0 0]) → W.cell? ⟨w.heap.size, 0, none⟩ = some (.int .i64 e) := fun W h => h.1
  have fc1 : ∀ W : World, (W.cell? ⟨w.heap.size, 0, none⟩ = some (.int .i64 e) ∧ W.cell? ⟨w.heap.size, 1, none⟩ = some (.int .i64 q) ∧ Cells W w2.heap.size 0 [.int .i64 0, strV [], strV [], .int .i64 0, .int .i64 0, strV [], .int .i64 0, .int .i64 0, .slice none 0 0]) → W.cell? ⟨w.heap.size, 1, none⟩ = some (.int .i64 q) := fun W h => h.2.1
  have fc2 : ∀ W : World, (W.cell? ⟨w.heap.size, 0, none⟩ = some (.int .i64 e) ∧ W.cell? ⟨w.heap.size, 1, none⟩ = some (.int .i64 q) ∧ Cells W w2.heap.size 0 [.int .i64 0, strV [], strV [], .int .i64 0, .int .i64 0, strV [], .int .i64 0, .int .i64 0, .slice none 0 0]) → Cells W w2.heap.size 0 [.int .i64 0, strV [], strV [], .int .i64 0, .int .i64 0, strV [], .int .i64 0, .int .i64 0, .slice none 0 0] := fun W h => h.2.2
  replace b2 := b2.keep kd (by simp)
  replace b3 := b3.keep kd (by simp)
  replace d2 := d2.keep kd (by simp)
  replace d3 := d3.keep kd (by simp)
  replace d4 := d4.keep kd (by simp)
  have k : Keep [c2, c3, c4] w wd := (k3.trans kd).any
  ((apply D_R rfl rfl; (intro W hW; (first | refine W_load rfl (fc0 W hW) ?_ | refine W_load rfl (fc1 W hW) ?_ | refine W_load rfl (fc2 W hW) ?_ | refine W_load_agg rfl (by rfl) (fc0 W hW) ?_ | refine W_load_agg rfl (by rfl) (fc1 W hW) ?_ | refine W_load_agg rfl (by rfl) (fc2 W hW) ?_); exact W_nil ⟨rfl, rfl, rfl⟩))
   <;> (apply D_R rfl rfl; (intro W hW; refine W_fieldAddr rfl ?_; exact W_nil ⟨rfl, rfl, rfl⟩))
   <;> (apply D_R rfl rfl; (intro W hW; (first | refine W_load rfl (fc0 W hW) ?_ | refine W_load rfl (fc1 W hW) ?_ | refine W_load rfl (fc2 W hW) ?_ | refine W_load_agg rfl (by rfl) (fc0 W hW) ?_ | refine W_load_agg rfl (by rfl) (fc1 W hW) ?_ | refine W_load_agg rfl (by rfl) (fc2 W hW) ?_); exact W_nil ⟨rfl, rfl, rfl⟩))
   <;> (apply D_R rfl rfl; (intro W hW; refine W_fieldAddr rfl ?_; exact W_nil ⟨rfl, rfl, rfl⟩))
   <;> (apply D_R rfl rfl; (intro W hW; (first | refine W_load rfl (fc0 W hW) ?_ | refine W_load rfl (fc1 W hW) ?_ | refine W_load rfl (fc2 W hW) ?_ | refine W_load_agg rfl (by rfl) (fc0 W hW) ?_ | refine W_load_agg rfl (by rfl) (fc1 W hW) ?_ | refine W_load_agg rfl (by rfl) (fc2 W hW) ?_); exact W_nil ⟨rfl, rfl, rfl⟩)))
  -- at place 5, operation 5: <dst=none op=(store 43 (tmp 0) (tmp 12)) type=0 guard=none>
  refine D_E rfl ?_
  refine W_store_agg (cs := [.int .i64 0, strV [], strV [], .int .i64 0, .int .i64 0, strV [], .int .i64 0, .int .i64 0, .slice none 0 0]) rfl rfl rfl (oneC_all rfl) d2 (by rw [hL2]; simp) (fun W p => ?_)
  have bb := p.blk
  rw [splice_full L2 [.int .i64 0, strV [], strV [], .int .i64 0, .int .i64 0, strV [], .int .i64 0, .int .i64 0, .slice none 0 0] (by rw [hL2])] at bb
  replace d3 := d3.keep p.keep (by simp; omega)
  replace d4 := d4.keep p.keep (by simp; omega)
  replace b2 := b2.keep p.keep (by simp; omega)
  replace b3 := b3.keep p.keep (by simp; omega)
  replace k := k.trans p.keep (by simp)
  clear d2 p
  have d2 := bb
  refine W_nil ⟨_, fun _ h => h, ⟨b2.cell rfl, b2.cell rfl, b3.cells⟩, ?_⟩
  refine D_E rfl ?_
  refine W_store rfl rfl rfl d3 (by simp) (fun W2 p => ?_)
  have bb3 := p.blk
  replace d2 := d2.keep p.keep (by simp; omega)
  replace d4 := d4.keep p.keep (by simp; omega)
  replace b2 := b2.keep p.keep (by simp; omega)
  replace b3 := b3.keep p.keep (by simp; omega)
  replace k := k.trans p.keep (by simp)
  clear d3 p
  refine W_nil ⟨_, fun _ h => h, ⟨b2.cell rfl, b2.cell rfl, b3.cells⟩, ?_⟩
  refine D_E rfl ?_
  refine W_store rfl rfl rfl d4 (by simp) (fun W3 p => ?_)
  have bb4 := p.blk
  replace d2 := d2.keep p.keep (by simp; omega)
  replace bb3 := bb3.keep p.keep (by simp; omega)
  replace b2 := b2.keep p.keep (by simp; omega)
  replace b3 := b3.keep p.keep (by simp; omega)
  replace k := k.trans p.keep (by simp)
  refine W_nil ⟨_, fun _ h => h, ⟨b2.cell rfl, b2.cell rfl, b3.cells⟩, ?_⟩
  refine D_nil ?_
  repeat' first | refine nx ?_ | refine C_cond_t rfl ?_ | refine C_cond_f rfl ?_ | refine Q_block_on rfl ?_
  exact fin_end0 rfl ⟨k, d2, bb3, bb4⟩
end Go.Proofs.YtmnhnbpnjepkbaaGreatDoor
