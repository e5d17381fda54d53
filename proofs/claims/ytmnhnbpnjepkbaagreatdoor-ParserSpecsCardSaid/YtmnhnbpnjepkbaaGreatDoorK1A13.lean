/- The laws' helpers: alike, parses, place. The parser's laws: fixed examples. The parser's laws: the fixed examples answer as they should. The parser's plain law: at most one kind of text, and what answers look like. The lexer's laws: gaps. Conditions: none. -/
import Derived.Test.YtmnhnbpnjepkbaaGreatDoorK1A12

namespace Go.Proofs.YtmnhnbpnjepkbaaGreatDoor
open Go.RowKit
set_option linter.unusedVariables false

/-- equal, apart from offsets -/
def likeR (oS oS' : Out Spc) (oF oF' : Out Fml) (oD oD' : Out Edt) : Prop :=
  oS.errno = oS'.errno ∧ oF.errno = oF'.errno ∧ oD.errno = oD'.errno ∧ oS.val zeroS = oS'.val zeroS ∧ oF.val zeroF = oF'.val zeroF ∧ oD.val zeroD = oD'.val zeroD

theorem alike_ok (w : World) (v v' : Value) (oS oS' : Out Spc) (oF oF' : Out Fml) (oD oD' : Out Edt) (h : ResV w v oS oF oD) (h' : ResV w v' oS' oF' oD') :
    Fn Tryz.prog 14 [v, v'] w fun r w' => ∃ b : Bool, r = .bool b ∧ (b = true ↔ likeR oS oS' oF oF' oD oD') ∧ Ext w w' := by
  obtain ⟨cs, cf, cd, rfl, hs, hf, hd⟩ := h
  obtain ⟨cs', cf', cd', rfl, hs', hf', hd'⟩ := h'
  have l1 : cs.length = 2 := spcR.len hs
  have l2 : cf.length = 5 := fmlR.len hf
  have l3 : cd.length = 9 := edtR.len hd
  have l1' : cs'.length = 2 := spcR.len hs'
  have l2' : cf'.length = 5 := fmlR.len hf'
  have l3' : cd'.length = 9 := edtR.len hd'
  obtain ⟨s0, s1, rfl⟩ := cells2 l1
  obtain ⟨g0, g1, g2, g3, g4, rfl⟩ := cells5 l2
  obtain ⟨d0, d1, d2, d3, d4, d5, d6, d7, d8, rfl⟩ := cells9 l3
  obtain ⟨s0', s1', rfl⟩ := cells2 l1'
  obtain ⟨g0', g1', g2', g3', g4', rfl⟩ := cells5 l2'
  obtain ⟨d0', d1', d2', d3', d4', d5', d6', d7', d8', rfl⟩ := cells9 l3'
  refine fn_of_wc Tryz.func14 rfl Tryz.ntmps14 (Nat.le_of_ble_eq_true rfl) (by kernel_rfl) ?_
  repeat' first | refine nx ?_ | refine C_cond_t rfl ?_ | refine C_cond_f rfl ?_ | refine Q_block_on rfl ?_
  (refine C_region ?_; refine W_box (L := [s0, s1, g0, g1, g2, g3, g4, d0, d1, d2, d3, d4, d5, d6, d7, d8, .int .i64 oS.errno, .int .i64 oF.errno, .int .i64 oD.errno, .int .i64 oS.loc, .int .i64 oF.loc, .int .i64 oD.loc]) rfl (fun w1 n1 => ?_))
  refine W_box (L := [s0', s1', g0', g1', g2', g3', g4', d0', d1', d2', d3', d4', d5', d6', d7', d8', .int .i64 oS'.errno, .int .i64 oF'.errno, .int .i64 oD'.errno, .int .i64 oS'.loc, .int .i64 oF'.loc, .int .i64 oD'.loc]) rfl (fun w2 n2 => ?_)
  have a2 := n1.blk.keep n2.keep (by simp)
  have b2 := n2.blk
  have k2 : Ext w w2 := n1.keep.trans n2.keep
  ((refine M_assign ?_; (first | refine M_bool rfl ?_ | refine W_move ?_))
   <;> refine W_nil ?_)
  repeat' first | refine nx ?_ | refine C_cond_t rfl ?_ | refine C_cond_f rfl ?_ | refine Q_block_on rfl ?_
  have part5 : ∀ {W : World} {b : Nat} {T : TypeId} {L M : List Value} (k n : Nat), Blk W b T L → (L.drop k).take n = M → Cells W b (0 + k) M := fun k n hb e => by
    have := hb.cells.part k n
    rw [e] at this; exact this
  (refine C_region ?_
   <;> refine W_fieldAddr rfl ?_
   <;> (first | refine W_load rfl (Blk.cell (by assumption) (by rfl)) ?_ | refine W_load rfl (by assumption) ?_)
   <;> refine W_fieldAddr rfl ?_
   <;> (first | refine W_load rfl (Blk.cell (by assumption) (by rfl)) ?_ | refine W_load rfl (by assumption) ?_)
   <;> (refine W_eql rfl rfl (fun hc => ?_) (fun hc => ?_) <;> try (exfalso; omega))
   <;> (first | refine M_bool rfl ?_ | refine W_move ?_)
   <;> (first | refine W_no rfl ?_ | (refine W_yes rfl ?_; refine W_fieldAddr rfl ?_))
   <;> (first | refine W_no rfl ?_ | (refine W_yes rfl ?_; (first | refine W_load rfl (Blk.cell (by assumption) (by rfl)) ?_ | refine W_load rfl (by assumption) ?_)))
   <;> (first | refine W_no rfl ?_ | (refine W_yes rfl ?_; refine W_fieldAddr rfl ?_))
   <;> (first | refine W_no rfl ?_ | (refine W_yes rfl ?_; (first | refine W_load rfl (Blk.cell (by assumption) (by rfl)) ?_ | refine W_load rfl (by assumption) ?_)))
   <;> (first | refine W_no rfl ?_ | (refine W_yes rfl ?_; (refine W_eql rfl rfl (fun hc => ?_) (fun hc => ?_) <;> try (exfalso; omega))))
   <;> ((first | refine M_pick_t rfl ?_ | refine M_pick_f rfl ?_); (first | refine M_bool rfl ?_ | refine W_move ?_))
   <;> (first | refine M_bool rfl ?_ | refine W_move ?_)
   <;> (first | refine W_no rfl ?_ | (refine W_yes rfl ?_; refine W_fieldAddr rfl ?_))
   <;> (first | refine W_no rfl ?_ | (refine W_yes rfl ?_; (first | refine W_load rfl (Blk.cell (by assumption) (by rfl)) ?_ | refine W_load rfl (by assumption) ?_)))
   <;> (first | refine W_no rfl ?_ | (refine W_yes rfl ?_; refine W_fieldAddr rfl ?_))
   <;> (first | refine W_no rfl ?_ | (refine W_yes rfl ?_; (first | refine W_load rfl (Blk.cell (by assumption) (by rfl)) ?_ | refine W_load rfl (by assumption) ?_)))
   <;> (first | refine W_no rfl ?_ | (refine W_yes rfl ?_; (refine W_eql rfl rfl (fun hc => ?_) (fun hc => ?_) <;> try (exfalso; omega))))
   <;> ((first | refine M_pick_t rfl ?_ | refine M_pick_f rfl ?_); (first | refine M_bool rfl ?_ | refine W_move ?_))
   <;> (first | refine M_bool rfl ?_ | refine W_move ?_)
   <;> (first | refine W_no rfl ?_ | (refine W_yes rfl ?_; refine W_fieldAddr rfl ?_)))
  · (refine W_yes rfl ?_; refine W_load_agg (L := [s0, s1]) rfl rfl (part5 0 2 a2 rfl) ?_)
    ((first | refine W_no rfl ?_ | (refine W_yes rfl ?_; refine W_fieldAddr rfl ?_)))
    (refine W_yes rfl ?_; refine W_load_agg (L := [s0', s1']) rfl rfl (part5 0 2 b2 rfl) ?_)
    (refine W_yes rfl ?_; refine W_call (sameSpec_ok w2 _ _ _ _ (spcR.ext hs k2) (spcR.ext hs' k2)) rfl ?_)
    rintro _ w3 ⟨b, rfl, hb, k3⟩
    have a3 := a2.keep k3 (by simp)
    have b3 := b2.keep k3 (by simp)
    have k23 := k2.trans k3
    cases b with
    | false =>
      (((first | refine M_pick_t rfl ?_ | refine M_pick_f rfl ?_); (first | refine M_bool rfl ?_ | refine W_move ?_))
       <;> (first | refine M_bool rfl ?_ | refine W_move ?_)
       <;> (first | refine W_no rfl ?_ | (refine W_yes rfl ?_; refine W_fieldAddr rfl ?_)))
      ((first | refine W_no rfl ?_ | (refine W_yes rfl ?_; (first | refine W_load_aggB rfl (by assumption) (by rfl) ?_ | refine W_load_agg rfl (by rfl) (Blk.cells (by assumption)) ?_)))
       <;> (first | refine W_no rfl ?_ | (refine W_yes rfl ?_; refine W_fieldAddr rfl ?_))
       <;> (first | refine W_no rfl ?_ | (refine W_yes rfl ?_; (first | refine W_load_aggB rfl (by assumption) (by rfl) ?_ | refine W_load_agg rfl (by rfl) (Blk.cells (by assumption)) ?_)))
       <;> refine W_no rfl ?_
       <;> ((first | refine M_pick_t rfl ?_ | refine M_pick_f rfl ?_); (first | refine M_bool rfl ?_ | refine W_move ?_))
       <;> (first | refine M_bool rfl ?_ | refine W_move ?_)
       <;> (first | refine W_no rfl ?_ | (refine W_yes rfl ?_; refine W_fieldAddr rfl ?_))
       <;> (first | refine W_no rfl ?_ | (refine W_yes rfl ?_; (first | refine W_load_aggB rfl (by assumption) (by rfl) ?_ | refine W_load_agg rfl (by rfl) (Blk.cells (by assumption)) ?_)))
       <;> (first | refine W_no rfl ?_ | (refine W_yes rfl ?_; refine W_fieldAddr rfl ?_))
       <;> (first | refine W_no rfl ?_ | (refine W_yes rfl ?_; (first | refine W_load_aggB rfl (by assumption) (by rfl) ?_ | refine W_load_agg rfl (by rfl) (Blk.cells (by assumption)) ?_)))
       <;> refine W_no rfl ?_
       <;> ((first | refine M_pick_t rfl ?_ | refine M_pick_f rfl ?_); (first | refine M_bool rfl ?_ | refine W_move ?_))
       <;> (refine M_assign ?_; (first | refine M_bool rfl ?_ | refine W_move ?_))
       <;> refine W_nil ?_)
      repeat' first | refine nx ?_ | refine C_cond_t rfl ?_ | refine C_cond_f rfl ?_ | refine Q_block_on rfl ?_
      exact fin_ret1 rfl ⟨false, rfl, ⟨fun h => (by cases h), fun h => absurd (hb.2 h.2.2.2.1) (by simp)⟩, k23⟩
    | true =>
      (((first | refine M_pick_t rfl ?_ | refine M_pick_f rfl ?_); (first | refine M_bool rfl ?_ | refine W_move ?_))
       <;> (first | refine M_bool rfl ?_ | refine W_move ?_)
       <;> (first | refine W_no rfl ?_ | (refine W_yes rfl ?_; refine W_fieldAddr rfl ?_)))
      (refine W_yes rfl ?_; refine W_load_agg (L := [g0, g1, g2, g3, g4]) rfl rfl (part5 2 5 a3 rfl) ?_)
      ((first | refine W_no rfl ?_ | (refine W_yes rfl ?_; refine W_fieldAddr rfl ?_)))
      (refine W_yes rfl ?_; refine W_load_agg (L := [g0', g1', g2', g3', g4']) rfl rfl (part5 2 5 b3 rfl) ?_)
      (refine W_yes rfl ?_; refine W_call (same_ok w3 _ _ _ _ (fmlR.ext hf k23).2 (fmlR.ext hf' k23).2) rfl ?_)
      rintro _ w4 ⟨b, rfl, hb4, k4⟩
      have a4 := a3.keep k4 (by simp)
      have b4 := b3.keep k4 (by simp)
      have k24 := k23.trans k4
      cases b with
      | false =>
        (((first | refine M_pick_t rfl ?_ | refine M_pick_f rfl ?_); (first | refine M_bool rfl ?_ | refine W_move ?_))
         <;> (first | refine M_bool rfl ?_ | refine W_move ?_)
         <;> (first | refine W_no rfl ?_ | (refine W_yes rfl ?_; refine W_fieldAddr rfl ?_)))
        ((first | refine W_no rfl ?_ | (refine W_yes rfl ?_; (first | refine W_load_aggB rfl (by assumption) (by rfl) ?_ | refine W_load_agg rfl (by rfl) (Blk.cells (by assumption)) ?_)))
         <;> (first | refine W_no rfl ?_ | (refine W_yes rfl ?_; refine W_fieldAddr rfl ?_))
         <;> (first | refine W_no rfl ?_ | (refine W_yes rfl ?_; (first | refine W_load_aggB rfl (by assumption) (by rfl) ?_ | refine W_load_agg rfl (by rfl) (Blk.cells (by assumption)) ?_)))
         <;> refine W_no rfl ?_
         <;> ((first | refine M_pick_t rfl ?_ | refine M_pick_f rfl ?_); (first | refine M_bool rfl ?_ | refine W_move ?_))
         <;> (refine M_assign ?_; (first | refine M_bool rfl ?_ | refine W_move ?_))
         <;> refine W_nil ?_)
        repeat' first | refine nx ?_ | refine C_cond_t rfl ?_ | refine C_cond_f rfl ?_ | refine Q_block_on rfl ?_
        exact fin_ret1 rfl ⟨false, rfl, ⟨fun h => (by cases h), fun h => absurd (hb4.2 h.2.2.2.2.1) (by simp)⟩, k24⟩
      | true =>
        (((first | refine M_pick_t rfl ?_ | refine M_pick_f rfl ?_); (first | refine M_bool rfl ?_ | refine W_move ?_))
         <;> (first | refine M_bool rfl ?_ | refine W_move ?_)
         <;> (first | refine W_no rfl ?_ | (refine W_yes rfl ?_; refine W_fieldAddr rfl ?_)))
        (refine W_yes rfl ?_; refine W_load_agg (L := [d0, d1, d2, d3, d4, d5, d6, d7, d8]) rfl rfl (part5 7 9 a4 rfl) ?_)
        ((first | refine W_no rfl ?_ | (refine W_yes rfl ?_; refine W_fieldAddr rfl ?_)))
        (refine W_yes rfl ?_; refine W_load_agg (L := [d0', d1', d2', d3', d4', d5', d6', d7', d8']) rfl rfl (part5 7 9 b4 rfl) ?_)
        (refine W_yes rfl ?_; refine W_call (sameEdit_ok w4 _ _ _ _ (edtR.ext hd k24) (edtR.ext hd' k24)) rfl ?_)
        rintro _ w5 ⟨b, rfl, hb5, k5⟩
        (((first | refine M_pick_t rfl ?_ | refine M_pick_f rfl ?_); (first | refine M_bool rfl ?_ | refine W_move ?_))
         <;> (refine M_assign ?_; (first | refine M_bool rfl ?_ | refine W_move ?_))
         <;> refine W_nil ?_)
        repeat' first | refine nx ?_ | refine C_cond_t rfl ?_ | refine C_cond_f rfl ?_ | refine Q_block_on rfl ?_
        exact fin_ret1 rfl ⟨b, rfl, ⟨fun h => ⟨by assumption, by assumption, by assumption, hb.1 rfl, hb4.1 rfl, hb5.1 h⟩, fun h => hb5.2 h.2.2.2.2.2⟩, k24.trans k5⟩
  all_goals
    ((first | refine W_no rfl ?_ | (refine W_yes rfl ?_; (first | refine W_load_aggB rfl (by assumption) (by rfl) ?_ | refine W_load_agg rfl (by rfl) (Blk.cells (by assumption)) ?_)))
     <;> (first | refine W_no rfl ?_ | (refine W_yes rfl ?_; refine W_fieldAddr rfl ?_))
     <;> (first | refine W_no rfl ?_ | (refine W_yes rfl ?_; (first | refine W_load_aggB rfl (by assumption) (by rfl) ?_ | refine W_load_agg rfl (by rfl) (Blk.cells (by assumption)) ?_)))
     <;> refine W_no rfl ?_
     <;> ((first | refine M_pick_t rfl ?_ | refine M_pick_f rfl ?_); (first | refine M_bool rfl ?_ | refine W_move ?_))
     <;> (first | refine M_bool rfl ?_ | refine W_move ?_)
     <;> (first | refine W_no rfl ?_ | (refine W_yes rfl ?_; refine W_fieldAddr rfl ?_))
     <;> (first | refine W_no rfl ?_ | (refine W_yes rfl ?_; (first | refine W_load_aggB rfl (by assumption) (by rfl) ?_ | refine W_load_agg rfl (by rfl) (Blk.cells (by assumption)) ?_)))
     <;> (first | refine W_no rfl ?_ | (refine W_yes rfl ?_; refine W_fieldAddr rfl ?_))
     <;> (first | refine W_no rfl ?_ | (refine W_yes rfl ?_; (first | refine W_load_aggB rfl (by assumption) (by rfl) ?_ | refine W_load_agg rfl (by rfl) (Blk.cells (by assumption)) ?_)))
     <;> refine W_no rfl ?_
     <;> ((first | refine M_pick_t rfl ?_ | refine M_pick_f rfl ?_); (first | refine M_bool rfl ?_ | refine W_move ?_))
     <;> (first | refine M_bool rfl ?_ | refine W_move ?_)
     <;> (first | refine W_no rfl ?_ | (refine W_yes rfl ?_; refine W_fieldAddr rfl ?_))
     <;> (first | refine W_no rfl ?_ | (refine W_yes rfl ?_; (first | refine W_load_aggB rfl (by assumption) (by rfl) ?_ | refine W_load_agg rfl (by rfl) (Blk.cells (by assumption)) ?_)))
     <;> (first | refine W_no rfl ?_ | (refine W_yes rfl ?_; refine W_fieldAddr rfl ?_))
     <;> (first | refine W_no rfl ?_ | (refine W_yes rfl ?_; (first | refine W_load_aggB rfl (by assumption) (by rfl) ?_ | refine W_load_agg rfl (by rfl) (Blk.cells (by assumption)) ?_)))
     <;> refine W_no rfl ?_
     <;> ((first | refine M_pick_t rfl ?_ | refine M_pick_f rfl ?_); (first | refine M_bool rfl ?_ | refine W_move ?_))
     <;> (refine M_assign ?_; (first | refine M_bool rfl ?_ | refine W_move ?_))
     <;> refine W_nil ?_)
    repeat' first | refine nx ?_ | refine C_cond_t rfl ?_ | refine C_cond_f rfl ?_ | refine Q_block_on rfl ?_
    refine fin_ret1 rfl ⟨false, rfl, ⟨fun h => (by cases h), ?_⟩, k2⟩
    rintro ⟨h1, h2, h3, _⟩
    exfalso
    first | exact absurd h1 (by assumption) | exact absurd h2 (by assumption) | exact absurd h3 (by assumption)

theorem parses_ok (w : World) (t : List UInt8) (v : Value) (f : Fml) (hv : FV w v f) (hG : GK w) : Fn Tryz.prog 19 [strV t, v] w fun r w' => ∃ b : Bool, r = .bool b ∧ (b = true ↔ PRes .formula t (.ok f)) ∧ Ext w w' := by
  obtain ⟨cv, rfl, hcv, hone⟩ := hv.cells
  refine fn_of_wc Tryz.func19 rfl Tryz.ntmps19 (Nat.le_of_ble_eq_true rfl) (by kernel_rfl) ?_
  repeat' first | refine nx ?_ | refine C_cond_t rfl ?_ | refine C_cond_f rfl ?_ | refine Q_block_on rfl ?_
  (refine C_region ?_; refine W_box (L := cv) rfl (fun w1 n1 => ?_))
  have a1 := n1.blk
  ((refine M_assign ?_; (first | refine M_bool rfl ?_ | refine W_move ?_))
   <;> refine W_nil ?_)
  repeat' first | refine nx ?_ | refine C_cond_t rfl ?_ | refine C_cond_f rfl ?_ | refine Q_block_on rfl ?_
  (refine C_region ?_
   <;> (first | refine M_str rfl ?_ | refine W_move ?_))
  -- at operation 1: <dst=(some 10) op=(call <callee=(value (func 16)) args=[(tmp 9)] argTypes=[9]>) type=52 guard=none>
  refine W_call (parse_F w1 t (hG.ext n1.keep)) rfl ?_
  rintro _ w2 h2
  obtain ⟨oF, cf, pF, rfl, k2, fF⟩ := h2.out (zeroF_fits _ _)
  have hcf : cf.length = 5 := fmlR.len fF
  have hcfo := fmlR.one fF
  have a2 := a1.keep k2 (by simp)
  ((first | refine M_tuple rfl ?_ | refine W_move ?_)
   <;> refine W_extract rfl rfl ?_
   <;> refine W_extract rfl rfl ?_
   <;> refine W_extract rfl rfl ?_)
  -- at operation 6: <dst=(some 5) op=(alloc 39) type=0 guard=none>
  refine W_newAgg (cs := cf) rfl hcf (by rfl) hcfo (fun w3 n3 => ?_)
  have a3 := a2.keep n3.keep (by simp)
  have b3 := n3.blk
  have k3 : Ext w w3 := (n1.keep.trans k2).trans n3.keep
  ((refine M_assign ?_; (first | refine M_int rfl ?_ | refine W_move ?_))
   <;> (refine M_assign ?_; (first | refine M_int rfl ?_ | refine W_move ?_))
   <;> refine W_nil ?_)
  repeat' first | refine nx ?_ | refine C_cond_t rfl ?_ | refine C_cond_f rfl ?_ | refine Q_block_on rfl ?_
  cases oF with
  | error e =>
    have hne := pF.ne
    have he : Out.errno (Except.error e : Out Fml) = e.1 := rfl
    (refine C_region ?_
     <;> (first | refine M_int rfl ?_ | refine W_move ?_)
     <;> (refine W_eql rfl rfl (fun hc => ?_) (fun hc => ?_) <;> try (exfalso; omega))
     <;> (first | refine M_bool rfl ?_ | refine W_move ?_)
     <;> (first | refine W_no rfl ?_ | (refine W_yes rfl ?_; (first | refine M_int rfl ?_ | refine W_move ?_)))
     <;> (first | refine W_no rfl ?_ | (refine W_yes rfl ?_; (refine W_eql rfl rfl (fun hc => ?_) (fun hc => ?_) <;> try (exfalso; omega))))
     <;> ((first | refine M_pick_t rfl ?_ | refine M_pick_f rfl ?_); (first | refine M_bool rfl ?_ | refine W_move ?_))
     <;> (first | refine M_bool rfl ?_ | refine W_move ?_))
    ((first | refine W_no rfl ?_ | (refine W_yes rfl ?_; (first | refine W_load_aggB rfl (by assumption) (by rfl) ?_ | refine W_load_agg rfl (by rfl) (Blk.cells (by assumption)) ?_)))
     <;> (first | refine W_no rfl ?_ | (refine W_yes rfl ?_; (first | refine W_load_aggB rfl (by assumption) (by rfl) ?_ | refine W_load_agg rfl (by rfl) (Blk.cells (by assumption)) ?_)))
     <;> refine W_no rfl ?_
     <;> ((first | refine M_pick_t rfl ?_ | refine M_pick_f rfl ?_); (first | refine M_bool rfl ?_ | refine W_move ?_))
     <;> (refine M_assign ?_; (first | refine M_bool rfl ?_ | refine W_move ?_))
     <;> refine W_nil ?_)
    repeat' first | refine nx ?_ | refine C_cond_t rfl ?_ | refine C_cond_f rfl ?_ | refine Q_block_on rfl ?_
    exact fin_ret1 rfl ⟨false, rfl, ⟨fun h => (by cases h), fun h => by cases pF.det h⟩, k3⟩
  | ok g =>
    have he : Out.errno (Except.ok g : Out Fml) = 0 := rfl
    have hl : Out.loc (Except.ok g : Out Fml) = -1 := rfl
    (refine C_region ?_
     <;> (first | refine M_int rfl ?_ | refine W_move ?_)
     <;> (refine W_eql rfl rfl (fun hc => ?_) (fun hc => ?_) <;> try (exfalso; omega))
     <;> (first | refine M_bool rfl ?_ | refine W_move ?_)
     <;> (first | refine W_no rfl ?_ | (refine W_yes rfl ?_; (first | refine M_int rfl ?_ | refine W_move ?_)))
     <;> (first | refine W_no rfl ?_ | (refine W_yes rfl ?_; (refine W_eql rfl rfl (fun hc => ?_) (fun hc => ?_) <;> try (exfalso; omega))))
     <;> ((first | refine M_pick_t rfl ?_ | refine M_pick_f rfl ?_); (first | refine M_bool rfl ?_ | refine W_move ?_))
     <;> (first | refine M_bool rfl ?_ | refine W_move ?_))
    (refine W_yes rfl ?_; refine W_load_aggB rfl b3 hcf ?_)
    (refine W_yes rfl ?_; refine W_load_aggB rfl a3 hcv ?_)
    (refine W_yes rfl ?_; refine W_call (same_ok w3 _ _ g f ((fmlR.mono (fmlR.ext fF n3.keep) (fun _ _ => trivial)).2) (hv.ext k3)) rfl ?_)
    rintro _ w4 ⟨b, rfl, hb, k4⟩
    (((first | refine M_pick_t rfl ?_ | refine M_pick_f rfl ?_); (first | refine M_bool rfl ?_ | refine W_move ?_))
     <;> (refine M_assign ?_; (first | refine M_bool rfl ?_ | refine W_move ?_))
     <;> refine W_nil ?_)
    repeat' first | refine nx ?_ | refine C_cond_t rfl ?_ | refine C_cond_f rfl ?_ | refine Q_block_on rfl ?_
    refine fin_ret1 rfl ⟨b, rfl, ?_, k3.trans k4⟩
    rw [hb]
    exact ⟨fun h => by subst h; exact pF, fun h => by have := pF.det h; exact Except.ok.inj this⟩

def intsC (l : List Int) : List Value := l.map fun n => .int .i64 n
/-- the index of the token at an offset -/
def placeM (l : List Int) (x : Int) : Int := match l.findIdx? (fun y => decide (y = x)) with
  | some i => (i : Int)
  | none => if x = -1 then -1 else -2
theorem place_ok (w : World) (a : Option Addr) (c : Nat) (l : List Int) (x : Int) (h : Sl anyB w (.slice a l.length c) l.length (intsC l)) : Fn Tryz.prog 13 [.slice a l.length c, .int .i64 x] w fun v w' => v = .int .i64 (placeM l x) ∧ w' = w := by
  have hlm : l.length ≤ 9223372036854775807 := by obtain ⟨_, _, hv, g1, g2, _⟩ := id h; cases hv; omega
  refine fn_of_wc Tryz.func13 rfl Tryz.ntmps13 (Nat.le_of_ble_eq_true rfl) (by kernel_rfl) ?_
  repeat' first | refine nx ?_ | refine C_cond_t rfl ?_ | refine C_cond_f rfl ?_ | refine Q_block_on rfl ?_
  (refine C_region ?_
   <;> (refine M_assign ?_; (first | refine M_int rfl ?_ | refine W_move ?_))
   <;> refine W_nil ?_)
  repeat' first | refine nx ?_ | refine C_cond_t rfl ?_ | refine C_cond_f rfl ?_ | refine Q_block_on rfl ?_
  (refine C_region ?_
   <;> (refine M_assign ?_; (first | refine M_int rfl ?_ | refine W_move ?_))
   <;> refine W_nil ?_)
  repeat' first | refine nx ?_ | refine C_cond_t rfl ?_ | refine C_cond_f rfl ?_ | refine Q_block_on rfl ?_
  refine C_loop (α := Nat) (fun k => [(0, .slice a l.length c), (1, .int .i64 x), (5, .int .i64 (k : Int))]) (fun k W => k ≤ l.length ∧ W = w ∧ ∀ j y, j < k → l[j]? = some y → y ≠ x) (fun k => l.length - k) 0 ⟨rfl, rfl, rfl, trivial⟩ ⟨by omega, rfl, fun j y hj => by omega⟩ ?_
  rintro k w3 f3 ⟨hk, rfl, hj⟩
  repeat' first | refine nx ?_ | refine C_cond_t rfl ?_ | refine C_cond_f rfl ?_ | refine Q_block_on rfl ?_
  by_cases hlt : k < l.length
  · obtain ⟨y, hy⟩ : ∃ y, l[k]? = some y := ⟨_, List.getElem?_eq_getElem hlt⟩
    obtain ⟨b, o, rfl, hcell⟩ : ∃ b o, a = some ⟨b, o, none⟩ ∧ w3.cell? ⟨b, o + k, none⟩ = some (.int .i64 y) := by
      obtain ⟨a', cap, hv, h1, h2, h3, h4⟩ := id h
      cases hv
      obtain ⟨b, o, rfl, _, hc⟩ := h4.resolve_left (by omega)
      exact ⟨b, o, rfl, hc k _ (by simp [intsC, hy])⟩
    (refine C_region ?_
     <;> (first | refine M_int rfl ?_ | refine W_move ?_)
     <;> (first | refine M_slice rfl ?_ | refine W_move ?_)
     <;> refine W_len rfl ?_
     <;> (refine W_lss rfl rfl (fun hc => ?_) (fun hc => ?_) <;> try (exfalso; omega))
     <;> refine W_nil ?_)
    repeat' first | refine nx ?_ | refine C_cond_t rfl ?_ | refine C_cond_f rfl ?_ | refine Q_block_on rfl ?_
    by_cases hyx : y = x
    · (refine C_region ?_
       <;> (first | refine M_slice rfl ?_ | refine W_move ?_)
       <;> (first | refine M_int rfl ?_ | refine W_move ?_)
       <;> (first | refine W_idx1 rfl rfl rfl (by omega) ?_ | refine W_idx rfl rfl rfl (by omega) ?_ | refine W_indexAddr rfl rfl (by omega) (by omega) ?_)
       <;> (first | refine W_load rfl (Blk.cell (by assumption) (by rfl)) ?_ | refine W_load rfl (by assumption) ?_)
       <;> (first | refine M_int rfl ?_ | refine W_move ?_)
       <;> (refine W_eql rfl rfl (fun hc => ?_) (fun hc => ?_) <;> try (exfalso; omega))
       <;> refine W_nil ?_)
      repeat' first | refine nx ?_ | refine C_cond_t rfl ?_ | refine C_cond_f rfl ?_ | refine Q_block_on rfl ?_
      (refine C_region ?_
       <;> (first | refine M_int rfl ?_ | refine W_move ?_)
       <;> (refine M_assign ?_; (first | refine M_int rfl ?_ | refine W_move ?_))
       <;> refine W_nil ?_)
      repeat' first | refine nx ?_ | refine C_cond_t rfl ?_ | refine C_cond_f rfl ?_ | refine Q_block_on rfl ?_
      refine fin_ret1 rfl ⟨?_, rfl⟩
      have : l.findIdx? (fun y => decide (y = x)) = some k := by
        rw [List.findIdx?_eq_some_iff_getElem]
        obtain ⟨h1, h2⟩ := List.getElem?_eq_some_iff.1 hy
        refine ⟨hlt, by simp [h2, hyx], fun j hjk => ?_⟩
        have := hj j l[j] hjk (List.getElem?_eq_getElem (by omega))
        simpa using this
      unfold placeM
      rw [this]; rfl
    · (refine C_region ?_
       <;> (first | refine M_slice rfl ?_ | refine W_move ?_)
       <;> (first | refine M_int rfl ?_ | refine W_move ?_)
       <;> (first | refine W_idx1 rfl rfl rfl (by omega) ?_ | refine W_idx rfl rfl rfl (by omega) ?_ | refine W_indexAddr rfl rfl (by omega) (by omega) ?_)
       <;> (first | refine W_load rfl (Blk.cell (by assumption) (by rfl)) ?_ | refine W_load rfl (by assumption) ?_)
       <;> (first | refine M_int rfl ?_ | refine W_move ?_)
       <;> (refine W_eql rfl rfl (fun hc => ?_) (fun hc => ?_) <;> try (exfalso; omega))
       <;> refine W_nil ?_)
      repeat' first | refine nx ?_ | refine C_cond_t rfl ?_ | refine C_cond_f rfl ?_ | refine Q_block_on rfl ?_
      (refine C_region ?_
       <;> (first | refine M_int rfl ?_ | refine W_move ?_)
       <;> refine W_add rfl rfl (by first | exact inR_i64 (by omega) (by omega) | exact inR_u8 (by omega) (by omega) | exact inR_u16 (by omega) (by omega)) ?_
       <;> (refine M_assign ?_; (first | refine M_int rfl ?_ | refine W_move ?_))
       <;> refine W_nil ?_)
      repeat' first | refine nx ?_ | refine C_cond_t rfl ?_ | refine C_cond_f rfl ?_ | refine Q_block_on rfl ?_
      refine ⟨k + 1, ⟨rfl, ⟨rfl, rfl, ?_, trivial⟩, ⟨by omega, rfl, fun j z hjk hz => ?_⟩⟩, by omega⟩
      · show Value.int .i64 ((k : Int) + 1) = _
        rw [Int.natCast_add]; rfl
      · by_cases hjk' : j = k
        · subst hjk'; rw [hy] at hz; cases hz; exact hyx
        · exact hj j z (by omega) hz
  · have hnone : l.findIdx? (fun y => decide (y = x)) = none := by
      rw [List.findIdx?_eq_none_iff]
      intro y hy
      obtain ⟨j, hj'⟩ := List.getElem?_of_mem hy
      have := hj j y (by have := (List.getElem?_eq_some_iff.1 hj').1; omega) hj'
      simpa using this
    (refine C_region ?_
     <;> (first | refine M_int rfl ?_ | refine W_move ?_)
     <;> (first | refine M_slice rfl ?_ | refine W_move ?_)
     <;> refine W_len rfl ?_
     <;> (refine W_lss rfl rfl (fun hc => ?_) (fun hc => ?_) <;> try (exfalso; omega))
     <;> refine W_nil ?_)
    repeat' first | refine nx ?_ | refine C_cond_t rfl ?_ | refine C_cond_f rfl ?_ | refine Q_block_on rfl ?_
    by_cases hx : x = -1
    · (refine C_region ?_
       <;> (first | refine M_int rfl ?_ | refine W_move ?_)
       <;> (refine W_eql rfl rfl (fun hc => ?_) (fun hc => ?_) <;> try (exfalso; omega))
       <;> refine W_nil ?_)
      repeat' first | refine nx ?_ | refine C_cond_t rfl ?_ | refine C_cond_f rfl ?_ | refine Q_block_on rfl ?_
      (refine C_region ?_
       <;> (refine M_assign ?_; (first | refine M_int rfl ?_ | refine W_move ?_))
       <;> refine W_nil ?_)
      repeat' first | refine nx ?_ | refine C_cond_t rfl ?_ | refine C_cond_f rfl ?_ | refine Q_block_on rfl ?_
      exact fin_ret1 rfl ⟨by unfold placeM; rw [hnone, if_pos hx]; rfl, rfl⟩
    · (refine C_region ?_
       <;> (first | refine M_int rfl ?_ | refine W_move ?_)
       <;> (refine W_eql rfl rfl (fun hc => ?_) (fun hc => ?_) <;> try (exfalso; omega))
       <;> refine W_nil ?_)
      repeat' first | refine nx ?_ | refine C_cond_t rfl ?_ | refine C_cond_f rfl ?_ | refine Q_block_on rfl ?_
      (refine C_region ?_
       <;> (refine M_assign ?_; (first | refine M_int rfl ?_ | refine W_move ?_))
       <;> refine W_nil ?_)
      repeat' first | refine nx ?_ | refine C_cond_t rfl ?_ | refine C_cond_f rfl ?_ | refine Q_block_on rfl ?_
      exact fin_ret1 rfl ⟨by unfold placeM; rw [hnone, if_neg hx]; rfl, rfl⟩
end Go.Proofs.YtmnhnbpnjepkbaaGreatDoor

namespace Go.Proofs.YtmnhnbpnjepkbaaGreatDoor
open Go.RowKit
set_option linter.unusedVariables false

/-- a text parsed, with so much fuel -/
def parseD (nt : NT) (t : List UInt8) (n : Nat) : Option (Out nt.T) := match lexM t with
  | .error e => some (.error e)
  | .ok ts => (evG (evN n) (whole nt) ts).map (errOf t.length)
theorem PRes.of {nt : NT} {t : List UInt8} {n : Nat} {r : Out nt.T} (h : parseD nt t n = some r) : PRes nt t r := by
  unfold parseD at h
  unfold PRes
  cases hm : lexM t with
  | error e => rw [hm] at h; exact (Option.some.inj h).symm
  | ok ts =>
    rw [hm] at h
    obtain ⟨a, h1, h2⟩ := Option.map_eq_some_iff.1 h
    exact ⟨a, ⟨n, h1⟩, h2.symm⟩

theorem parseK_F (w : World) (t : List UInt8) (a : NT.T .formula) (hG : GK w) (h : PRes .formula t (.ok a)) : Fn Tryz.prog 16 [strV t] w (fun v w' => ∃ c, v = .tuple #[.agg c.toArray, .int .i64 0, .int .i64 (-1)] ∧ Ext w w' ∧ Rp.fits fmlR anyB w' c a) := by
  refine (parse_F w t hG).mono ?_
  intro v w' hh
  obtain ⟨o, c, p, rfl, k, f⟩ := hh.out (zeroF_fits _ _)
  obtain rfl := p.det h
  exact ⟨c, rfl, k, Rp.mono fmlR f fun _ _ => trivial⟩
theorem parseE_F (w : World) (t : List UInt8) (e : Int) (q : Nat) (hG : GK w) (h : PRes .formula t (.error (e, q))) : Fn Tryz.prog 16 [strV t] w (fun v w' => ∃ c : List Value, v = .tuple #[.agg c.toArray, .int .i64 e, .int .i64 (q : Int)] ∧ Ext w w' ∧ c.length = 5 ∧ oneC c) := by
  refine (parse_F w t hG).mono ?_
  intro v w' hh
  obtain ⟨o, c, p, rfl, k, f⟩ := hh.out (zeroF_fits _ _)
  obtain rfl := p.det h
  exact ⟨c, rfl, k, Rp.len fmlR f, Rp.one fmlR f⟩
theorem parseK_S (w : World) (t : List UInt8) (a : NT.T .spec) (hG : GK w) (h : PRes .spec t (.ok a)) : Fn Tryz.prog 23 [strV t] w (fun v w' => ∃ c, v = .tuple #[.agg c.toArray, .int .i64 0, .int .i64 (-1)] ∧ Ext w w' ∧ Rp.fits spcR anyB w' c a) := by
  refine (parse_S w t hG).mono ?_
  intro v w' hh
  obtain ⟨o, c, p, rfl, k, f⟩ := hh.out (zeroS_fits _ _)
  obtain rfl := p.det h
  exact ⟨c, rfl, k, Rp.mono spcR f fun _ _ => trivial⟩
theorem parseE_S (w : World) (t : List UInt8) (e : Int) (q : Nat) (hG : GK w) (h : PRes .spec t (.error (e, q))) : Fn Tryz.prog 23 [strV t] w (fun v w' => ∃ c : List Value, v = .tuple #[.agg c.toArray, .int .i64 e, .int .i64 (q : Int)] ∧ Ext w w' ∧ c.length = 2 ∧ oneC c) := by
  refine (parse_S w t hG).mono ?_
  intro v w' hh
  obtain ⟨o, c, p, rfl, k, f⟩ := hh.out (zeroS_fits _ _)
  obtain rfl := p.det h
  exact ⟨c, rfl, k, Rp.len spcR f, Rp.one spcR f⟩
theorem parseK_D (w : World) (t : List UInt8) (a : NT.T .edit) (hG : GK w) (h : PRes .edit t (.ok a)) : Fn Tryz.prog 25 [strV t] w (fun v w' => ∃ c, v = .tuple #[.agg c.toArray, .int .i64 0, .int .i64 (-1)] ∧ Ext w w' ∧ Rp.fits edtR anyB w' c a) := by
  refine (parse_D w t hG).mono ?_
  intro v w' hh
  obtain ⟨o, c, p, rfl, k, f⟩ := hh.out (zeroD_fits _ _)
  obtain rfl := p.det h
  exact ⟨c, rfl, k, Rp.mono edtR f fun _ _ => trivial⟩
theorem parseE_D (w : World) (t : List UInt8) (e : Int) (q : Nat) (hG : GK w) (h : PRes .edit t (.error (e, q))) : Fn Tryz.prog 25 [strV t] w (fun v w' => ∃ c : List Value, v = .tuple #[.agg c.toArray, .int .i64 e, .int .i64 (q : Int)] ∧ Ext w w' ∧ c.length = 9 ∧ oneC c) := by
  refine (parse_D w t hG).mono ?_
  intro v w' hh
  obtain ⟨o, c, p, rfl, k, f⟩ := hh.out (zeroD_fits _ _)
  obtain rfl := p.det h
  exact ⟨c, rfl, k, Rp.len edtR f, Rp.one edtR f⟩

def fr : Fml := isF [114] 1
def fg : Fml := isF [103] 1
theorem hx1 : PRes .formula [71, 32, 40, 114, 32, 45, 62, 32, 70, 91, 51, 93, 32, 103, 41] (.ok ⟨12, [], 0, 0, [⟨7, [], 0, 0, [fr, ⟨13, [], 0, 3, [fg]⟩]⟩]⟩) := PRes.of (n := 60) (by kernel_rfl)
theorem hx2 : PRes .formula [114, 32, 38, 32, 103, 32, 38, 32, 40, 114, 32, 124, 32, 103, 41] (.ok ⟨5, [], 0, 0, [fr, fg, ⟨6, [], 0, 0, [fr, fg]⟩]⟩) := PRes.of (n := 60) (by kernel_rfl)
theorem hx3 : PRes .formula [33, 114, 32, 85, 32, 103, 32, 82, 32, 109, 61, 50] (.ok ⟨9, [], 0, 0, [notF fr, ⟨10, [], 0, 0, [fg, isF [109] 2]⟩]⟩) := PRes.of (n := 60) (by kernel_rfl)
theorem hx4 : PRes .formula [114, 32, 83, 91, 49, 93, 32, 89, 32, 103] (.ok ⟨16, [], 1, 0, [fr, ⟨15, [], 0, 0, [fg]⟩]⟩) := PRes.of (n := 60) (by kernel_rfl)
theorem hx5 : PRes .formula [114, 32, 84, 32, 109, 32, 33, 61, 32, 48] (.ok ⟨17, [], 1, 0, [fr, notF (isF [109] 0)]⟩) := PRes.of (n := 60) (by kernel_rfl)
def hsS : Spc := ⟨[⟨[114], true, 2⟩, ⟨[109], false, 3⟩], [⟨[112], [103], 2, ⟨12, [], 0, 0, [notF (isF [109] 2)]⟩⟩]⟩
theorem hx6 : PRes .spec [105, 110, 112, 117, 116, 32, 114, 59, 32, 111, 117, 116, 112, 117, 116, 32, 109, 58, 32, 51, 59, 32, 112, 97, 114, 116, 32, 112, 32, 123, 32, 103, 117, 97, 114, 97, 110, 116, 101, 101, 32, 103, 58, 32, 71, 32, 109, 32, 33, 61, 32, 50, 59, 32, 125] (.ok hsS) := PRes.of (n := 60) (by kernel_rfl)
theorem hx7 : PRes .formula [97, 32, 38] (.error (51, 3)) := PRes.of (n := 60) (by kernel_rfl)
theorem hx8 : PRes .formula [97, 32, 98] (.error (50, 2)) := PRes.of (n := 60) (by kernel_rfl)
theorem hx9 : PRes .spec [105, 110, 112, 117, 116, 32, 88, 59] (.error (50, 6)) := PRes.of (n := 60) (by kernel_rfl)
theorem hx10 : PRes .edit [114, 101, 112, 108, 97, 99, 101, 32, 112, 32, 97, 115, 115, 117, 109, 101, 32, 113, 58, 32, 114] (.ok ⟨3, ⟨[112], [113], 1, fr⟩⟩) := PRes.of (n := 60) (by kernel_rfl)
theorem hx11 : PRes .edit [100, 114, 111, 112, 32, 113] (.ok ⟨2, ⟨[], [113], 0, zeroF⟩⟩) := PRes.of (n := 60) (by kernel_rfl)
theorem hx12 : lexM [97, 32, 38, 32, 98] = .ok [⟨1, [97], 0⟩, ⟨3, [38], 2⟩, ⟨1, [98], 4⟩] := by kernel_rfl
end Go.Proofs.YtmnhnbpnjepkbaaGreatDoor

namespace Go.Proofs.YtmnhnbpnjepkbaaGreatDoor
open Go.RowKit
set_option linter.unusedVariables false

theorem made15 : (madeCells (Value.agg #[.int .i64 0, strV [], .int .i64 0, .int .i64 0, .slice none 0 0]).cells (3 * 5)).toList = zero5 ++ (zero5 ++ zero5) := by kernel_rfl
theorem madeSgn2 : (madeCells (Value.agg #[strV [], .bool false, .int .i64 0]).cells (2 * 3)).toList = [strV [], .bool false, .int .i64 0, strV [], .bool false, .int .i64 0] := by kernel_rfl
theorem FV.five {w : World} {v : Value} {f : Fml} (h : FV w v f) : ∃ c0 c1 c2 c3 c4, v = .agg [c0, c1, c2, c3, c4].toArray ∧ oneC [c0, c1, c2, c3, c4] := by
  obtain ⟨cs, rfl, hcs, hone⟩ := FAt.cells h
  obtain ⟨c0, c1, c2, c3, c4, rfl⟩ := cells5 hcs
  exact ⟨_, _, _, _, _, rfl, hone⟩
theorem FV.fresh {w w' : World} {e : TypeId} {L : List (List Value)} {l : List Fml} (n : New w w' e L.flatten) (h : FsAt anyB w L l) (hl : l.length ≤ 1000000) : Sl anyB w' (.slice (some ⟨w.heap.size, 0, none⟩) l.length l.length) l.length L.flatten ∧ FsAt anyB w' L l := FsAt.fresh n h trivial hl

set_option maxHeartbeats 3200000 in
set_option maxRecDepth 20000 in
theorem head_ok (w : World) (hG : GK w) : Fn Tryz.prog 9 [] w fun v w' => v = .bool true ∧ Ext w w' := by
  refine fn_of_wc Tryz.func9 rfl Tryz.ntmps9 (Nat.le_of_ble_eq_true rfl) (by kernel_rfl) ?_
  repeat' first | refine nx ?_ | refine C_cond_t rfl ?_ | refine C_cond_f rfl ?_ | refine Q_block_on rfl ?_
  (refine C_region ?_
   <;> (refine M_assign ?_; (first | refine M_bool rfl ?_ | refine W_move ?_))
   <;> refine W_nil ?_)
  repeat' first | refine nx ?_ | refine C_cond_t rfl ?_ | refine C_cond_f rfl ?_ | refine Q_block_on rfl ?_
  (refine C_region ?_)
  -- at operation 0: <dst=(some 30) op=(call <callee=(value (func 29)) args=[(const (string <data=[114]>)), (const (int i64 1))] argTypes=[9, 3]>) type=39 guard=none>
  refine W_call (lis_ok w [114] 1) rfl ?_
  rintro vr w1 ⟨k1, fr1⟩
  obtain ⟨r0, r1, r2, r3, r4, rfl⟩ : ∃ r0 r1 r2 r3 r4, vr = .agg [r0, r1, r2, r3, r4].toArray := by
    obtain ⟨cs, rfl, hcs, _⟩ := fr1.cells
    obtain ⟨c0, c1, c2, c3, c4, rfl⟩ := cells5 hcs
    exact ⟨_, _, _, _, _, rfl⟩
  have or : oneC [r0, r1, r2, r3, r4] := (fmlR.one ⟨rfl, fr1⟩ : _)
  refine W_newAgg (cs := [r0, r1, r2, r3, r4]) rfl rfl (by rfl) or (fun w2 n2 => ?_)
  have br := n2.blk
  have k2 := k1.trans n2.keep
  replace fr1 := fr1.new n2
  refine W_nil ?_
  repeat' first | refine nx ?_ | refine C_cond_t rfl ?_ | refine C_cond_f rfl ?_ | refine Q_block_on rfl ?_
  (refine C_region ?_)
  -- at operation 0: <dst=(some 31) op=(call <callee=(value (func 29)) args=[(const (string <data=[103]>)), (const (int i64 1))] argTypes=[9, 3]>) type=39 guard=none>
  refine W_call (lis_ok w2 [103] 1) rfl ?_
  rintro vg w3 ⟨k3, fg1⟩
  obtain ⟨g0, g1, g2, g3, g4, rfl⟩ : ∃ g0 g1 g2 g3 g4, vg = .agg [g0, g1, g2, g3, g4].toArray := by
    obtain ⟨cs, rfl, hcs, _⟩ := fg1.cells
    obtain ⟨c0, c1, c2, c3, c4, rfl⟩ := cells5 hcs
    exact ⟨_, _, _, _, _, rfl⟩
  have og : oneC [g0, g1, g2, g3, g4] := (fmlR.one ⟨rfl, fg1⟩ : _)
  refine W_newAgg (cs := [g0, g1, g2, g3, g4]) rfl rfl (by rfl) og (fun w4 n4 => ?_)
  have bg := n4.blk
  have k24 := k3.trans n4.keep
  have k4 := k2.trans k24
  replace fr1 := fr1.ext k24
  replace br := br.keep k24 (by simp)
  replace fg1 := fg1.new n4
  refine W_nil ?_
  repeat' first | refine nx ?_ | refine C_cond_t rfl ?_ | refine C_cond_f rfl ?_ | refine Q_block_on rfl ?_
  (refine C_region ?_; refine W_load_aggB rfl bg rfl ?_)
  refine W_buildSlice (out := [g0, g1, g2, g3, g4]) rfl (by omega) (by rw [made5]; rfl) (fun w5 n5 => ?_)
  obtain ⟨S5, F5⟩ := FV.fresh (L := [[g0, g1, g2, g3, g4]]) n5 (FsAt.one fg1 rfl) (by simp)
  replace fr1 := fr1.new n5
  replace fg1 := fg1.new n5
  replace br := br.keep n5.keep (by simp)
  replace bg := bg.keep n5.keep (by simp)
  (refine W_build (by rfl) (by rfl) ?_)
  -- at operation 3: <dst=(some 3) op=(alloc 39) type=0 guard=none>
  refine W_newAgg (cs := [.int .i64 13, strV [], .int .i64 0, .int .i64 3, .slice (some ⟨w4.heap.size, 0, none⟩) 1 1]) rfl rfl (by rfl) (oneC_all rfl) (fun w6 n6 => ?_)
  have fw6 : FV w6 (.agg [.int .i64 13, strV [], .int .i64 0, .int .i64 3, .slice (some ⟨w4.heap.size, 0, none⟩) 1 1].toArray) ⟨13, [], 0, 3, [fg]⟩ := (FAt.node 13 [] 0 3 S5 F5).new n6
  have bw := n6.blk
  have k6 : Ext w w6 := (k4.trans n5.keep).trans n6.keep
  replace fr1 := fr1.new n6
  replace fg1 := fg1.new n6
  replace br := br.keep n6.keep (by simp)
  replace bg := bg.keep n6.keep (by simp)
  refine W_nil ?_
  repeat' first | refine nx ?_ | refine C_cond_t rfl ?_ | refine C_cond_f rfl ?_ | refine Q_block_on rfl ?_
  refine C_drawN (.read 0 (.read 1 (.alt 2 (.alt 3 (.alt 4 (.read 5 (.read 6 (.read 7 (.read 8 (.read 9 (.alt 10 (.alt 11 (.alt 12 (.alt 13 (.read 14 (.read 15 .done)) .stop) .stop) .stop) .stop)))))) .stop) .stop) .stop))) mixed (by kernel_rfl) (fun wd kd ed => ⟨Ext wd, ?_, ?_⟩)
  · exact Ext.refl _
  have ca : ∀ W, Ext wd W → Cells W w1.heap.size 0 [r0, r1, r2, r3, r4] := fun W e => ((br.keep kd (by simp)).keep e (by simp)).cells
  have cb : ∀ W, Ext wd W → Cells W w3.heap.size 0 [g0, g1, g2, g3, g4] := fun W e => ((bg.keep kd (by simp)).keep e (by simp)).cells
  have cc : ∀ W, Ext wd W → Cells W w5.heap.size 0 [.int .i64 13, strV [], .int .i64 0, .int .i64 3, .slice (some ⟨w4.heap.size, 0, none⟩) 1 1] := fun W e => ((bw.keep kd (by simp)).keep e (by simp)).cells
  have fr4 := fr1.ext kd
  have fg4 := fg1.ext kd
  ((apply D_R rfl rfl; (intro W hW; (first | refine W_load rfl (ca W hW) ?_ | refine W_load rfl (cb W hW) ?_ | refine W_load rfl (cc W hW) ?_ | refine W_load_agg rfl (by rfl) (ca W hW) ?_ | refine W_load_agg rfl (by rfl) (cb W hW) ?_ | refine W_load_agg rfl (by rfl) (cc W hW) ?_); exact W_nil ⟨rfl, rfl, rfl⟩))
   <;> (apply D_R rfl rfl; (intro W hW; (first | refine W_load rfl (ca W hW) ?_ | refine W_load rfl (cb W hW) ?_ | refine W_load rfl (cc W hW) ?_ | refine W_load_agg rfl (by rfl) (ca W hW) ?_ | refine W_load_agg rfl (by rfl) (cb W hW) ?_ | refine W_load_agg rfl (by rfl) (cc W hW) ?_); exact W_nil ⟨rfl, rfl, rfl⟩)))
  -- at place 2, operation 2: <dst=(some 37) op=(call <callee=(value (func 21)) args=[(const (int i64 7)), (tmp 35), (tmp 36)] argTypes=[3, 39, 39]>) type=39 guard=none>
  refine D_E rfl ?_
  refine W_call (rtwo_ok wd 7 _ _ fr ⟨13, [], 0, 3, [fg]⟩ fr4 (fw6.ext kd)) rfl ?_
  rintro v wa ⟨ka, fa⟩
  refine W_nil ⟨Ext wd, fun _ e => e, ka, ?_⟩
  refine D_E rfl ?_
  refine W_call (rone_ok wa 12 _ _ fa) rfl ?_
  rintro v' wb ⟨kb, fb⟩
  refine W_nil ⟨Ext wd, fun _ e => e, ka.trans kb, ?_⟩
  have kdb := (k6.trans kd).trans (ka.trans kb)
  refine D_E rfl ?_
  refine W_call (parses_ok wb _ _ _ fb (hG.ext kdb)) rfl ?_
  rintro _ wc ⟨b, rfl, hb, kc⟩
  obtain rfl : b = true := hb.2 hx1
  have kdc := (ka.trans kb).trans kc
  refine W_nil ⟨Ext wd, fun _ e => e, kdc, ?_⟩
  ((apply D_R rfl rfl; (intro W hW; (first | refine M_bool rfl ?_ | refine W_move ?_); exact W_nil ⟨rfl, rfl, rfl⟩))
   <;> (first | refine D_skip rfl rfl rfl rfl ?_ | (apply D_R rfl rfl; (intro W hW; refine W_no rfl ?_; exact W_nil ⟨rfl, rfl, rfl⟩)) | (apply D_R rfl rfl; (intro W hW; (refine W_yes rfl ?_; (first | refine W_load rfl (ca W hW) ?_ | refine W_load rfl (cb W hW) ?_ | refine W_load rfl (cc W hW) ?_ | refine W_load_agg rfl (by rfl) (ca W hW) ?_ | refine W_load_agg rfl (by rfl) (cb W hW) ?_ | refine W_load_agg rfl (by rfl) (cc W hW) ?_)); exact W_nil ⟨rfl, rfl, rfl⟩)))
   <;> (first | refine D_skip rfl rfl rfl rfl ?_ | (apply D_R rfl rfl; (intro W hW; refine W_no rfl ?_; exact W_nil ⟨rfl, rfl, rfl⟩)) | (apply D_R rfl rfl; (intro W hW; (refine W_yes rfl ?_; (first | refine W_load rfl (ca W hW) ?_ | refine W_load rfl (cb W hW) ?_ | refine W_load rfl (cc W hW) ?_ | refine W_load_agg rfl (by rfl) (ca W hW) ?_ | refine W_load_agg rfl (by rfl) (cb W hW) ?_ | refine W_load_agg rfl (by rfl) (cc W hW) ?_)); exact W_nil ⟨rfl, rfl, rfl⟩)))
   <;> (first | refine D_skip rfl rfl rfl rfl ?_ | (apply D_R rfl rfl; (intro W hW; refine W_no rfl ?_; exact W_nil ⟨rfl, rfl, rfl⟩)) | (apply D_R rfl rfl; (intro W hW; (refine W_yes rfl ?_; (first | refine W_load rfl (ca W hW) ?_ | refine W_load rfl (cb W hW) ?_ | refine W_load rfl (cc W hW) ?_ | refine W_load_agg rfl (by rfl) (ca W hW) ?_ | refine W_load_agg rfl (by rfl) (cb W hW) ?_ | refine W_load_agg rfl (by rfl) (cc W hW) ?_)); exact W_nil ⟨rfl, rfl, rfl⟩)))
   <;> (first | refine D_skip rfl rfl rfl rfl ?_ | (apply D_R rfl rfl; (intro W hW; refine W_no rfl ?_; exact W_nil ⟨rfl, rfl, rfl⟩)) | (apply D_R rfl rfl; (intro W hW; (refine W_yes rfl ?_; (first | refine W_load rfl (ca W hW) ?_ | refine W_load rfl (cb W hW) ?_ | refine W_load rfl (cc W hW) ?_ | refine W_load_agg rfl (by rfl) (ca W hW) ?_ | refine W_load_agg rfl (by rfl) (cb W hW) ?_ | refine W_load_agg rfl (by rfl) (cc W hW) ?_)); exact W_nil ⟨rfl, rfl, rfl⟩))))
  -- at place 10, operation 10: <dst=(some 45) op=(call <callee=(value (func 21)) args=[(const (int i64 6)), (tmp 43), (tmp 44)] argTypes=[3, 39, 39]>) type=39 guard=(some [5, true])>
  refine D_E rfl ?_
  (refine W_yes rfl ?_; refine W_call (rtwo_ok wc 6 _ _ fr fg (fr4.ext kdc) (fg4.ext kdc)) rfl ?_)
  rintro v2 we ⟨ke, fe⟩
  obtain ⟨o0, o1, o2, o3, o4, rfl⟩ : ∃ o0 o1 o2 o3 o4, v2 = .agg [o0, o1, o2, o3, o4].toArray := by
    obtain ⟨cs, rfl, hcs, _⟩ := fe.cells
    obtain ⟨c0, c1, c2, c3, c4, rfl⟩ := cells5 hcs
    exact ⟨_, _, _, _, _, rfl⟩
  have kde := kdc.trans ke
  refine W_nil ⟨Ext wd, fun _ e => e, kde, ?_⟩
  refine D_E rfl ?_
  (refine W_yes rfl ?_; refine W_buildSlice (out := [r0, r1, r2, r3, r4, g0, g1, g2, g3, g4, o0, o1, o2, o3, o4]) rfl (by omega) (by rw [made15]; rfl) (fun wf nf => ?_))
  obtain ⟨Sf, Ff⟩ := FV.fresh (L := [[r0, r1, r2, r3, r4], [g0, g1, g2, g3, g4], [o0, o1, o2, o3, o4]]) nf (FsAt.cons (fr4.ext kde) rfl (FsAt.two (fg4.ext kde) rfl fe rfl)) (by simp)
  have kdf := kde.trans nf.keep
  refine W_nil ⟨Ext wd, fun _ e => e, kdf, ?_⟩
  refine D_E rfl ?_
  (refine W_yes rfl ?_; refine W_call (rop_ok wf 5 anyB _ _ _ [fr, fg, ⟨6, [], 0, 0, [fr, fg]⟩] Sf Ff) rfl ?_)
  rintro v3 wg ⟨kg, fgg⟩
  have kdg := kdf.trans kg
  refine W_nil ⟨Ext wd, fun _ e => e, kdg, ?_⟩
  refine D_E rfl ?_
  (refine W_yes rfl ?_; refine W_call (parses_ok wg _ _ _ fgg (hG.ext ((k6.trans kd).trans kdg))) rfl ?_)
  rintro _ wh ⟨b, rfl, hb, kh⟩
  obtain rfl : b = true := hb.2 hx2
  have kdh := kdg.trans kh
  refine W_nil ⟨Ext wd, fun _ e => e, kdh, ?_⟩
  ((apply D_R rfl rfl; (intro W hW; ((first | refine M_pick_t rfl ?_ | refine M_pick_f rfl ?_); (first | refine M_bool rfl ?_ | refine W_move ?_)); exact W_nil ⟨rfl, rfl, rfl⟩))
   <;> (apply D_R rfl rfl; (intro W hW; (refine M_assign ?_; (first | refine M_bool rfl ?_ | refine W_move ?_)); exact W_nil ⟨rfl, rfl, rfl⟩))
   <;> refine D_nil ?_)
  repeat' first | refine nx ?_ | refine C_cond_t rfl ?_ | refine C_cond_f rfl ?_ | refine Q_block_on rfl ?_
  have kH : Ext w wh := (k6.trans kd).trans kdh
  have k6h : Ext w6 wh := kd.trans kdh
  replace fr1 := fr1.ext k6h
  replace fg1 := fg1.ext k6h
  replace br := br.keep k6h (by simp)
  replace bg := bg.keep k6h (by simp)
  clear ca cb cc fr4 fg4 kd
  refine C_drawN (.read 0 (.read 2 (.alt 1 (.alt 3 (.alt 4 (.alt 5 (.alt 6 (.read 7 (.read 8 (.read 9 (.alt 10 (.alt 11 (.alt 12 (.alt 13 (.alt 14 (.read 15 (.read 16 (.read 17 (.alt 18 (.alt 19 (.alt 20 (.alt 21 (.alt 22 (.read 23 (.read 24 .done)) .stop) .stop) .stop) .stop) .stop)))) .stop) .stop) .stop) .stop) .stop)))) .stop) .stop) .stop) .stop) .stop))) mixed (by kernel_rfl) (fun wd kd ed => ⟨Ext wd, ?_, ?_⟩)
  · exact Ext.refl _
  have ca : ∀ W, Ext wd W → Cells W w1.heap.size 0 [r0, r1, r2, r3, r4] := fun W e => ((br.keep kd (by simp)).keep e (by simp)).cells
  have cb : ∀ W, Ext wd W → Cells W w3.heap.size 0 [g0, g1, g2, g3, g4] := fun W e => ((bg.keep kd (by simp)).keep e (by simp)).cells
  have fr4 := fr1.ext kd
  have fg4 := fg1.ext kd
  have kWd : Ext w wd := kH.trans kd
  ((apply D_R rfl rfl; (intro W hW; (first | refine W_load rfl (ca W hW) ?_ | refine W_load rfl (cb W hW) ?_ | refine W_load_agg rfl (by rfl) (ca W hW) ?_ | refine W_load_agg rfl (by rfl) (cb W hW) ?_); exact W_nil ⟨rfl, rfl, rfl⟩))
   <;> (apply D_R rfl rfl; (intro W hW; (first | refine W_load rfl (ca W hW) ?_ | refine W_load rfl (cb W hW) ?_ | refine W_load_agg rfl (by rfl) (ca W hW) ?_ | refine W_load_agg rfl (by rfl) (cb W hW) ?_); exact W_nil ⟨rfl, rfl, rfl⟩)))
  -- at place 2, operation 1: <dst=(some 51) op=(call <callee=(value (func 31)) args=[(tmp 50)] argTypes=[39]>) type=39 guard=none>
  refine D_E rfl ?_
  refine W_call (lnot_ok wd _ fr fr4) rfl ?_
  rintro vN x1 ⟨e1, fN⟩
  refine W_nil ⟨Ext wd, fun _ e => e, e1, ?_⟩
  refine D_E rfl ?_
  refine W_call (lis_ok x1 [109] 2) rfl ?_
  rintro vM x2 ⟨e2, fM⟩
  have h2 := e1.trans e2
  refine W_nil ⟨Ext wd, fun _ e => e, h2, ?_⟩
  refine D_E rfl ?_
  refine W_call (rtwo_ok x2 10 _ _ fg _ (fg4.ext h2) fM) rfl ?_
  rintro vR x3 ⟨e3, fR⟩
  have h3 := h2.trans e3
  refine W_nil ⟨Ext wd, fun _ e => e, h3, ?_⟩
  refine D_E rfl ?_
  refine W_call (rtwo_ok x3 9 _ _ _ _ ((fN.ext e2).ext e3) fR) rfl ?_
  rintro vU x4 ⟨e4, fU⟩
  have h4 := h3.trans e4
  refine W_nil ⟨Ext wd, fun _ e => e, h4, ?_⟩
  refine D_E rfl ?_
  refine W_call (parses_ok x4 _ _ _ fU (hG.ext (kWd.trans h4))) rfl ?_
  rintro _ x5 ⟨b, rfl, hb, e5⟩
  obtain rfl : b = true := hb.2 hx3
  have h5 := h4.trans e5
  refine W_nil ⟨Ext wd, fun _ e => e, h5, ?_⟩
  ((apply D_R rfl rfl; (intro W hW; (first | refine M_bool rfl ?_ | refine W_move ?_); exact W_nil ⟨rfl, rfl, rfl⟩))
   <;> (first | refine D_skip rfl rfl rfl rfl ?_ | (apply D_R rfl rfl; (intro W hW; refine W_no rfl ?_; exact W_nil ⟨rfl, rfl, rfl⟩)) | (apply D_R rfl rfl; (intro W hW; (refine W_yes rfl ?_; (first | refine W_load rfl (ca W hW) ?_ | refine W_load rfl (cb W hW) ?_ | refine W_load_agg rfl (by rfl) (ca W hW) ?_ | refine W_load_agg rfl (by rfl) (cb W hW) ?_)); exact W_nil ⟨rfl, rfl, rfl⟩)))
   <;> (first | refine D_skip rfl rfl rfl rfl ?_ | (apply D_R rfl rfl; (intro W hW; refine W_no rfl ?_; exact W_nil ⟨rfl, rfl, rfl⟩)) | (apply D_R rfl rfl; (intro W hW; (refine W_yes rfl ?_; (first | refine W_load rfl (ca W hW) ?_ | refine W_load rfl (cb W hW) ?_ | refine W_load_agg rfl (by rfl) (ca W hW) ?_ | refine W_load_agg rfl (by rfl) (cb W hW) ?_)); exact W_nil ⟨rfl, rfl, rfl⟩))))
  -- at place 10, operation 10: <dst=(some 60) op=(buildSlice 37 1 [[0, (tmp 59)]]) type=37 guard=(some [7, true])>
  refine D_E rfl ?_
  (refine W_yes rfl ?_; refine W_buildSlice (out := [g0, g1, g2, g3, g4]) rfl (by omega) (by rw [made5]; rfl) (fun x6 m6 => ?_))
  obtain ⟨Sg, Fg⟩ := FV.fresh (L := [[g0, g1, g2, g3, g4]]) m6 (FsAt.one (fg4.ext h5) rfl) (by simp)
  have h6 := h5.trans m6.keep
  refine W_nil ⟨Ext wd, fun _ e => e, h6, ?_⟩
  refine D_E rfl ?_
  (refine W_yes rfl ?_; refine W_call (rlate_ok x6 15 0 anyB _ _ _ [fg] Sg Fg) rfl ?_)
  rintro vY x7 ⟨e7, fY⟩
  obtain ⟨y0, y1, y2, y3, y4, rfl, _⟩ := FV.five fY
  have h7 := h6.trans e7
  refine W_nil ⟨Ext wd, fun _ e => e, h7, ?_⟩
  refine D_E rfl ?_
  (refine W_yes rfl ?_; refine W_buildSlice (out := [r0, r1, r2, r3, r4, y0, y1, y2, y3, y4]) rfl (by omega) (by rw [made10]; rfl) (fun x8 m8 => ?_))
  obtain ⟨Ss, Fs⟩ := FV.fresh (L := [[r0, r1, r2, r3, r4], [y0, y1, y2, y3, y4]]) m8 (FsAt.two (fr4.ext h7) rfl fY rfl) (by simp)
  have h8 := h7.trans m8.keep
  refine W_nil ⟨Ext wd, fun _ e => e, h8, ?_⟩
  refine D_E rfl ?_
  (refine W_yes rfl ?_; refine W_call (rlate_ok x8 16 1 anyB _ _ _ [fr, ⟨15, [], 0, 0, [fg]⟩] Ss Fs) rfl ?_)
  rintro vS x9 ⟨e9, fS⟩
  have h9 := h8.trans e9
  refine W_nil ⟨Ext wd, fun _ e => e, h9, ?_⟩
  refine D_E rfl ?_
  (refine W_yes rfl ?_; refine W_call (parses_ok x9 _ _ _ fS (hG.ext (kWd.trans h9))) rfl ?_)
  rintro _ xa ⟨b, rfl, hb, ea⟩
  obtain rfl : b = true := hb.2 hx4
  have ha := h9.trans ea
  refine W_nil ⟨Ext wd, fun _ e => e, ha, ?_⟩
  ((apply D_R rfl rfl; (intro W hW; ((first | refine M_pick_t rfl ?_ | refine M_pick_f rfl ?_); (first | refine M_bool rfl ?_ | refine W_move ?_)); exact W_nil ⟨rfl, rfl, rfl⟩))
   <;> (apply D_R rfl rfl; (intro W hW; (first | refine M_bool rfl ?_ | refine W_move ?_); exact W_nil ⟨rfl, rfl, rfl⟩))
   <;> (first | refine D_skip rfl rfl rfl rfl ?_ | (apply D_R rfl rfl; (intro W hW; refine W_no rfl ?_; exact W_nil ⟨rfl, rfl, rfl⟩)) | (apply D_R rfl rfl; (intro W hW; (refine W_yes rfl ?_; (first | refine W_load rfl (ca W hW) ?_ | refine W_load rfl (cb W hW) ?_ | refine W_load_agg rfl (by rfl) (ca W hW) ?_ | refine W_load_agg rfl (by rfl) (cb W hW) ?_)); exact W_nil ⟨rfl, rfl, rfl⟩))))
  -- at place 18, operation 18: <dst=(some 68) op=(call <callee=(value (func 29)) args=[(const (string <data=[109]>)), (const (int i64 0))] argTypes=[9, 3]>) type=39 guard=(some [16, true])>
  refine D_E rfl ?_
  (refine W_yes rfl ?_; refine W_call (lis_ok xa [109] 0) rfl ?_)
  rintro vm xb ⟨eb, fm⟩
  have hb2 := ha.trans eb
  refine W_nil ⟨Ext wd, fun _ e => e, hb2, ?_⟩
  refine D_E rfl ?_
  (refine W_yes rfl ?_; refine W_call (lnot_ok xb _ _ fm) rfl ?_)
  rintro vn xc ⟨ec, fn⟩
  obtain ⟨y0', y1', y2', y3', y4', rfl, _⟩ := FV.five fn
  have hc2 := hb2.trans ec
  refine W_nil ⟨Ext wd, fun _ e => e, hc2, ?_⟩
  refine D_E rfl ?_
  (refine W_yes rfl ?_; refine W_buildSlice (out := [r0, r1, r2, r3, r4, y0', y1', y2', y3', y4']) rfl (by omega) (by rw [made10]; rfl) (fun xd md => ?_))
  obtain ⟨St, Ft⟩ := FV.fresh (L := [[r0, r1, r2, r3, r4], [y0', y1', y2', y3', y4']]) md (FsAt.two (fr4.ext hc2) rfl fn rfl) (by simp)
  have hd2 := hc2.trans md.keep
  refine W_nil ⟨Ext wd, fun _ e => e, hd2, ?_⟩
  refine D_E rfl ?_
  (refine W_yes rfl ?_; refine W_call (rlate_ok xd 17 1 anyB _ _ _ [fr, notF (isF [109] 0)] St Ft) rfl ?_)
  rintro vT xe ⟨ee, fT⟩
  have he2 := hd2.trans ee
  refine W_nil ⟨Ext wd, fun _ e => e, he2, ?_⟩
  refine D_E rfl ?_
  (refine W_yes rfl ?_; refine W_call (parses_ok xe _ _ _ fT (hG.ext (kWd.trans he2))) rfl ?_)
  rintro _ xf ⟨b, rfl, hb, ef⟩
  obtain rfl : b = true := hb.2 hx5
  have hf2 := he2.trans ef
  refine W_nil ⟨Ext wd, fun _ e => e, hf2, ?_⟩
  ((apply D_R rfl rfl; (intro W hW; ((first | refine M_pick_t rfl ?_ | refine M_pick_f rfl ?_); (first | refine M_bool rfl ?_ | refine W_move ?_)); exact W_nil ⟨rfl, rfl, rfl⟩))
   <;> (apply D_R rfl rfl; (intro W hW; (refine M_assign ?_; (first | refine M_bool rfl ?_ | refine W_move ?_)); exact W_nil ⟨rfl, rfl, rfl⟩))
   <;> refine D_nil ?_)
  repeat' first | refine nx ?_ | refine C_cond_t rfl ?_ | refine C_cond_f rfl ?_ | refine Q_block_on rfl ?_
  have kX : Ext w xf := kWd.trans hf2
  have frX := fr4.ext hf2
  have brX : Blk xf w1.heap.size 39 [r0, r1, r2, r3, r4] := ((br.keep kd (by simp)).keep hf2 (by simp))
  clear ca cb fr4 fg4 kd br bg fr1 fg1
  (refine C_region ?_)
  -- at operation 0: <dst=(some 75) op=(call <callee=(value (func 23)) args=[(const (string <data=[105, 110, 112, 117, 116, 32, 114, 59, 32, 111, 117, 116, 112, 117, 116, 32, 109, 58, 32, 51, 59, 32, 112, 97, 114, 116, 32, 112, 32, 123, 32, 103, 117, 97, 114, 97, 110, 116, 101, 101, 32, 103, 58, 32, 71, 32, 109, 32, 33, 61, 32, 50, 59, 32, 125]>))] argTypes=[9]>) type=65 guard=none>
  refine W_call (parseK_S xf _ hsS (hG.ext kX) hx6) rfl ?_
  rintro _ y1 ⟨cS, rfl, eS, fS⟩
  ((first | refine M_tuple rfl ?_ | refine W_move ?_)
   <;> refine W_extract rfl rfl ?_
   <;> refine W_extract rfl rfl ?_
   <;> refine W_extract rfl rfl ?_)
  -- at operation 5: <dst=(some 6) op=(alloc 36) type=0 guard=none>
  refine W_newAgg (cs := cS) rfl (spcR.len fS) (by rfl) (spcR.one fS) (fun y2 nS => ?_)
  have bS := nS.blk
  replace fS := spcR.ext fS nS.keep
  replace kX := (kX.trans eS).trans nS.keep
  replace frX := (frX.ext eS).new nS
  replace brX := (brX.keep eS (by simp)).keep nS.keep (by simp)
  ((refine M_assign ?_; (first | refine M_int rfl ?_ | refine W_move ?_))
   <;> (refine M_assign ?_; (first | refine M_int rfl ?_ | refine W_move ?_))
   <;> refine W_nil ?_)
  repeat' first | refine nx ?_ | refine C_cond_t rfl ?_ | refine C_cond_f rfl ?_ | refine Q_block_on rfl ?_
  (refine C_region ?_
   <;> refine W_build (by rfl) (by rfl) ?_
   <;> refine W_build (by rfl) (by rfl) ?_)
  -- at operation 2: <dst=(some 81) op=(buildSlice 33 2 [[0, (tmp 79)], [1, (tmp 80)]]) type=33 guard=none>
  refine W_buildSlice (out := sgnC ⟨[114], true, 2⟩ ++ sgnC ⟨[109], false, 3⟩) rfl (by omega) (by rw [madeSgn2]; rfl) (fun y3 nW => ?_)
  refine W_call (lis_ok y3 [109] 2) rfl ?_
  rintro vm2 y4 ⟨em, fm2⟩
  refine W_call (lnot_ok y4 _ _ fm2) rfl ?_
  rintro vn2 y5 ⟨en, fn2⟩
  refine W_call (rone_ok y5 12 _ _ fn2) rfl ?_
  rintro vo2 y6 ⟨eo, fo2⟩
  obtain ⟨q0, q1, q2, q3, q4, rfl, oq⟩ := FV.five fo2
  (refine W_build (by rfl) (by rfl) ?_)
  -- at operation 7: <dst=(some 86) op=(buildSlice 34 1 [[0, (tmp 85)]]) type=34 guard=none>
  refine W_buildSlice (out := [strV [112], strV [103], .int .i64 2] ++ [q0, q1, q2, q3, q4]) rfl (by omega) (by rw [madeReq]; rfl) (fun y7 nR => ?_)
  (refine W_build (by rfl) (by rfl) ?_)
  -- at operation 9: <dst=(some 9) op=(alloc 36) type=0 guard=none>
  refine W_newAgg (cs := [.slice (some ⟨y2.heap.size, 0, none⟩) 2 2, .slice (some ⟨y6.heap.size, 0, none⟩) 1 1]) rfl rfl (by rfl) (oneC_all rfl) (fun y8 nT => ?_)
  have kSW : Ext y2 y8 := ((((nW.keep.trans em).trans en).trans eo).trans nR.keep).trans nT.keep
  have k78 : Ext y6 y8 := nR.keep.trans nT.keep
  have kW8 : Ext y3 y8 := (((em.trans en).trans eo).trans nR.keep).trans nT.keep
  have bT := nT.blk
  have fT : spcR.fits anyB y8 [.slice (some ⟨y2.heap.size, 0, none⟩) 2 2, .slice (some ⟨y6.heap.size, 0, none⟩) 1 1] hsS := by
    refine ⟨_, _, rfl, ⟨_, _, [sgnC ⟨[114], true, 2⟩, sgnC ⟨[109], false, 3⟩], rfl, ?_, ?_⟩, ⟨_, _, [[strV [112], strV [103], .int .i64 2] ++ [q0, q1, q2, q3, q4]], rfl, ?_, ?_⟩⟩
    · exact ⟨_, _, rfl, Nat.le_refl _, by simp, (fun h => by cases h), .inr ⟨_, _, rfl, trivial, (nW.blk.keep kW8 (by simp)).cells⟩⟩
    · exact (RsAt.one (R := sgnR) rfl).app (RsAt.one (R := sgnR) rfl)
    · exact ⟨_, _, rfl, Nat.le_refl _, by simp, (fun h => by cases h), .inr ⟨_, _, rfl, trivial, (nR.blk.keep nT.keep (by simp)).cells⟩⟩
    · exact RsAt.one (R := reqR) ⟨_, rfl, rfl, fo2.ext k78⟩
  replace kX := kX.trans kSW
  replace frX := frX.ext kSW
  replace brX := brX.keep kSW (by simp)
  replace bS := bS.keep kSW (by simp)
  replace fS := spcR.ext fS kSW
  refine W_nil ?_
  repeat' first | refine nx ?_ | refine C_cond_t rfl ?_ | refine C_cond_f rfl ?_ | refine Q_block_on rfl ?_
  (refine C_region ?_)
  -- at operation 0: <dst=(some 89) op=(call <callee=(value (func 16)) args=[(const (string <data=[97, 32, 38]>))] argTypes=[9]>) type=52 guard=none>
  refine W_call (parseE_F y8 _ 51 3 (hG.ext kX) hx7) rfl ?_
  rintro _ y9 ⟨c7, rfl, e7, l7, on7⟩
  ((first | refine M_tuple rfl ?_ | refine W_move ?_)
   <;> refine W_extract rfl rfl ?_
   <;> refine W_extract rfl rfl ?_
   <;> refine W_extract rfl rfl ?_)
  -- at operation 5: <dst=(some 10) op=(alloc 39) type=0 guard=none>
  refine W_newAgg (cs := c7) rfl l7 (by rfl) on7 (fun ya n7 => ?_)
  replace kX := (kX.trans e7).trans n7.keep
  replace frX := (frX.ext e7).new n7
  replace brX := (brX.keep e7 (by simp)).keep n7.keep (by simp)
  ((refine M_assign ?_; (first | refine M_int rfl ?_ | refine W_move ?_))
   <;> (refine M_assign ?_; (first | refine M_int rfl ?_ | refine W_move ?_))
   <;> refine W_nil ?_)
  repeat' first | refine nx ?_ | refine C_cond_t rfl ?_ | refine C_cond_f rfl ?_ | refine Q_block_on rfl ?_
  (refine C_region ?_)
  -- at operation 0: <dst=(some 94) op=(call <callee=(value (func 16)) args=[(const (string <data=[97, 32, 98]>))] argTypes=[9]>) type=52 guard=none>
  refine W_call (parseE_F ya _ 50 2 (hG.ext kX) hx8) rfl ?_
  rintro _ yb ⟨c8, rfl, e8, l8, on8⟩
  ((first | refine M_tuple rfl ?_ | refine W_move ?_)
   <;> refine W_extract rfl rfl ?_
   <;> refine W_extract rfl rfl ?_
   <;> refine W_extract rfl rfl ?_)
  -- at operation 5: <dst=(some 13) op=(alloc 39) type=0 guard=none>
  refine W_newAgg (cs := c8) rfl l8 (by rfl) on8 (fun yc n8 => ?_)
  replace kX := (kX.trans e8).trans n8.keep
  replace frX := (frX.ext e8).new n8
  replace brX := (brX.keep e8 (by simp)).keep n8.keep (by simp)
  ((refine M_assign ?_; (first | refine M_int rfl ?_ | refine W_move ?_))
   <;> (refine M_assign ?_; (first | refine M_int rfl ?_ | refine W_move ?_))
   <;> refine W_nil ?_)
  repeat' first | refine nx ?_ | refine C_cond_t rfl ?_ | refine C_cond_f rfl ?_ | refine Q_block_on rfl ?_
  (refine C_region ?_)
  -- at operation 0: <dst=(some 99) op=(call <callee=(value (func 23)) args=[(const (string <data=[105, 110, 112, 117, 116, 32, 88, 59]>))] argTypes=[9]>) type=65 guard=none>
  refine W_call (parseE_S yc _ 50 6 (hG.ext kX) hx9) rfl ?_
  rintro _ yd ⟨c9, rfl, e9, l9, on9⟩
  ((first | refine M_tuple rfl ?_ | refine W_move ?_)
   <;> refine W_extract rfl rfl ?_
   <;> refine W_extract rfl rfl ?_
   <;> refine W_extract rfl rfl ?_)
  -- at operation 5: <dst=(some 16) op=(alloc 36) type=0 guard=none>
  refine W_newAgg (cs := c9) rfl l9 (by rfl) on9 (fun ye n9 => ?_)
  replace kX := (kX.trans e9).trans n9.keep
  replace frX := (frX.ext e9).new n9
  replace brX := (brX.keep e9 (by simp)).keep n9.keep (by simp)
  ((refine M_assign ?_; (first | refine M_int rfl ?_ | refine W_move ?_))
   <;> (refine M_assign ?_; (first | refine M_int rfl ?_ | refine W_move ?_))
   <;> refine W_nil ?_)
  repeat' first | refine nx ?_ | refine C_cond_t rfl ?_ | refine C_cond_f rfl ?_ | refine Q_block_on rfl ?_
  (refine C_region ?_)
  -- at operation 0: <dst=(some 104) op=(call <callee=(value (func 25)) args=[(const (string <data=[114, 101, 112, 108, 97, 99, 101, 32, 112, 32, 97, 115, 115, 117, 109, 101, 32, 113, 58, 32, 114]>))] argTypes=[9]>) type=67 guard=none>
  refine W_call (parseK_D ye _ _ (hG.ext kX) hx10) rfl ?_
  rintro _ yf ⟨cD, rfl, eD, fD⟩
  ((first | refine M_tuple rfl ?_ | refine W_move ?_)
   <;> refine W_extract rfl rfl ?_
   <;> refine W_extract rfl rfl ?_
   <;> refine W_extract rfl rfl ?_)
  -- at operation 5: <dst=(some 19) op=(alloc 43) type=0 guard=none>
  refine W_newAgg (cs := cD) rfl (edtR.len fD) (by rfl) (edtR.one fD) (fun yg nD => ?_)
  have bD := nD.blk
  replace fD := edtR.ext fD nD.keep
  ((refine M_assign ?_; (first | refine M_int rfl ?_ | refine W_move ?_))
   <;> (refine M_assign ?_; (first | refine M_int rfl ?_ | refine W_move ?_))
   <;> refine W_nil ?_)
  repeat' first | refine nx ?_ | refine C_cond_t rfl ?_ | refine C_cond_f rfl ?_ | refine Q_block_on rfl ?_
  (refine C_region ?_)
  -- at operation 0: <dst=(some 109) op=(call <callee=(value (func 25)) args=[(const (string <data=[100, 114, 111, 112, 32, 113]>))] argTypes=[9]>) type=67 guard=none>
  refine W_call (parseK_D yg _ _ (hG.ext ((kX.trans eD).trans nD.keep)) hx11) rfl ?_
  rintro _ yh ⟨cE, rfl, eE, fE⟩
  ((first | refine M_tuple rfl ?_ | refine W_move ?_)
   <;> refine W_extract rfl rfl ?_
   <;> refine W_extract rfl rfl ?_
   <;> refine W_extract rfl rfl ?_)
  -- at operation 5: <dst=(some 22) op=(alloc 43) type=0 guard=none>
  refine W_newAgg (cs := cE) rfl (edtR.len fE) (by rfl) (edtR.one fE) (fun yi nE => ?_)
  have bE := nE.blk
  replace fE := edtR.ext fE nE.keep
  have kgi : Ext yg yi := eE.trans nE.keep
  have kei : Ext ye yi := (eD.trans nD.keep).trans kgi
  have k8e : Ext y8 ye := ((((e7.trans n7.keep).trans e8).trans n8.keep).trans e9).trans n9.keep
  have k8i : Ext y8 yi := k8e.trans kei
  replace kX := kX.trans kei
  replace frX := frX.ext kei
  replace brX := brX.keep kei (by simp)
  replace bS := bS.keep k8i (by simp)
  replace bT := bT.keep k8i (by simp)
  replace fS := spcR.ext fS k8i
  replace fT := spcR.ext fT k8i
  replace bD := bD.keep kgi (by simp)
  replace fD := edtR.ext fD kgi
  ((refine M_assign ?_; (first | refine M_int rfl ?_ | refine W_move ?_))
   <;> (refine M_assign ?_; (first | refine M_int rfl ?_ | refine W_move ?_))
   <;> refine W_nil ?_)
  repeat' first | refine nx ?_ | refine C_cond_t rfl ?_ | refine C_cond_f rfl ?_ | refine Q_block_on rfl ?_
  (refine C_region ?_
   <;> (first | refine M_int rfl ?_ | refine W_move ?_)
   <;> (refine W_eql rfl rfl (fun hc => ?_) (fun hc => ?_) <;> try (exfalso; omega))
   <;> (first | refine M_bool rfl ?_ | refine W_move ?_)
   <;> (first | refine W_no rfl ?_ | (refine W_yes rfl ?_; (first | refine M_int rfl ?_ | refine W_move ?_)))
   <;> (first | refine W_no rfl ?_ | (refine W_yes rfl ?_; (refine W_eql rfl rfl (fun hc => ?_) (fun hc => ?_) <;> try (exfalso; omega))))
   <;> ((first | refine M_pick_t rfl ?_ | refine M_pick_f rfl ?_); (first | refine M_bool rfl ?_ | refine W_move ?_))
   <;> (first | refine M_bool rfl ?_ | refine W_move ?_))
  (refine W_yes rfl ?_; refine W_load_aggB rfl bS (spcR.len fS) ?_)
  (refine W_yes rfl ?_; refine W_load_aggB rfl bT rfl ?_)
  (refine W_yes rfl ?_; refine W_call (sameSpec_ok yi _ _ _ _ fS fT) rfl ?_)
  rintro _ yj ⟨b, rfl, hb, ej⟩
  obtain rfl : b = true := hb.2 rfl
  (((first | refine M_pick_t rfl ?_ | refine M_pick_f rfl ?_); (first | refine M_bool rfl ?_ | refine W_move ?_))
   <;> (first | refine M_bool rfl ?_ | refine W_move ?_)
   <;> (first | refine W_no rfl ?_ | (refine W_yes rfl ?_; (first | refine M_int rfl ?_ | refine W_move ?_)))
   <;> (first | refine W_no rfl ?_ | (refine W_yes rfl ?_; (refine W_eql rfl rfl (fun hc => ?_) (fun hc => ?_) <;> try (exfalso; omega))))
   <;> ((first | refine M_pick_t rfl ?_ | refine M_pick_f rfl ?_); (first | refine M_bool rfl ?_ | refine W_move ?_))
   <;> (first | refine M_bool rfl ?_ | refine W_move ?_)
   <;> (first | refine W_no rfl ?_ | (refine W_yes rfl ?_; (first | refine M_int rfl ?_ | refine W_move ?_)))
   <;> (first | refine W_no rfl ?_ | (refine W_yes rfl ?_; (refine W_eql rfl rfl (fun hc => ?_) (fun hc => ?_) <;> try (exfalso; omega))))
   <;> ((first | refine M_pick_t rfl ?_ | refine M_pick_f rfl ?_); (first | refine M_bool rfl ?_ | refine W_move ?_))
   <;> (first | refine M_bool rfl ?_ | refine W_move ?_)
   <;> (first | refine W_no rfl ?_ | (refine W_yes rfl ?_; (first | refine M_int rfl ?_ | refine W_move ?_)))
   <;> (first | refine W_no rfl ?_ | (refine W_yes rfl ?_; (refine W_eql rfl rfl (fun hc => ?_) (fun hc => ?_) <;> try (exfalso; omega))))
   <;> ((first | refine M_pick_t rfl ?_ | refine M_pick_f rfl ?_); (first | refine M_bool rfl ?_ | refine W_move ?_))
   <;> (first | refine M_bool rfl ?_ | refine W_move ?_)
   <;> (first | refine W_no rfl ?_ | (refine W_yes rfl ?_; (first | refine M_int rfl ?_ | refine W_move ?_)))
   <;> (first | refine W_no rfl ?_ | (refine W_yes rfl ?_; (refine W_eql rfl rfl (fun hc => ?_) (fun hc => ?_) <;> try (exfalso; omega))))
   <;> ((first | refine M_pick_t rfl ?_ | refine M_pick_f rfl ?_); (first | refine M_bool rfl ?_ | refine W_move ?_))
   <;> (first | refine M_bool rfl ?_ | refine W_move ?_)
   <;> (first | refine W_no rfl ?_ | (refine W_yes rfl ?_; (first | refine M_int rfl ?_ | refine W_move ?_)))
   <;> (first | refine W_no rfl ?_ | (refine W_yes rfl ?_; (refine W_eql rfl rfl (fun hc => ?_) (fun hc => ?_) <;> try (exfalso; omega))))
   <;> ((first | refine M_pick_t rfl ?_ | refine M_pick_f rfl ?_); (first | refine M_bool rfl ?_ | refine W_move ?_))
   <;> (first | refine M_bool rfl ?_ | refine W_move ?_)
   <;> (first | refine W_no rfl ?_ | (refine W_yes rfl ?_; (first | refine M_int rfl ?_ | refine W_move ?_)))
   <;> (first | refine W_no rfl ?_ | (refine W_yes rfl ?_; (refine W_eql rfl rfl (fun hc => ?_) (fun hc => ?_) <;> try (exfalso; omega))))
   <;> ((first | refine M_pick_t rfl ?_ | refine M_pick_f rfl ?_); (first | refine M_bool rfl ?_ | refine W_move ?_))
   <;> (refine M_assign ?_; (first | refine M_bool rfl ?_ | refine W_move ?_))
   <;> refine W_nil ?_)
  repeat' first | refine nx ?_ | refine C_cond_t rfl ?_ | refine C_cond_f rfl ?_ | refine Q_block_on rfl ?_
  replace bD := bD.keep ej (by simp)
  replace bE := bE.keep ej (by simp)
  replace brX := brX.keep ej (by simp)
  replace frX := frX.ext ej
  replace fD := edtR.ext fD ej
  replace fE := edtR.ext fE ej
  replace kX := kX.trans ej
  (refine C_region ?_
   <;> (first | refine M_int rfl ?_ | refine W_move ?_)
   <;> (refine W_eql rfl rfl (fun hc => ?_) (fun hc => ?_) <;> try (exfalso; omega))
   <;> (first | refine M_bool rfl ?_ | refine W_move ?_))
  (refine W_yes rfl ?_; refine W_load_aggB rfl bD (edtR.len fD) ?_)
  (refine W_yes rfl ?_; refine W_load_aggB rfl brX rfl ?_)
  ((first | refine W_no rfl ?_ | (refine W_yes rfl ?_; refine W_build (by rfl) (by rfl) ?_))
   <;> (first | refine W_no rfl ?_ | (refine W_yes rfl ?_; refine W_build (by rfl) (by rfl) ?_)))
  (refine W_yes rfl ?_; refine W_call (sameEdit_ok yj cD [.int .i64 3, strV [112], strV [113], .int .i64 1, r0, r1, r2, r3, r4] ⟨3, ⟨[112], [113], 1, fr⟩⟩ ⟨3, ⟨[112], [113], 1, fr⟩⟩ fD ⟨_, rfl, _, rfl, rfl, frX⟩) rfl ?_)
  rintro _ yk ⟨b, rfl, hb, ek⟩
  obtain rfl : b = true := hb.2 rfl
  (((first | refine M_pick_t rfl ?_ | refine M_pick_f rfl ?_); (first | refine M_bool rfl ?_ | refine W_move ?_))
   <;> (first | refine M_bool rfl ?_ | refine W_move ?_)
   <;> (first | refine W_no rfl ?_ | (refine W_yes rfl ?_; (first | refine M_int rfl ?_ | refine W_move ?_)))
   <;> (first | refine W_no rfl ?_ | (refine W_yes rfl ?_; (refine W_eql rfl rfl (fun hc => ?_) (fun hc => ?_) <;> try (exfalso; omega))))
   <;> ((first | refine M_pick_t rfl ?_ | refine M_pick_f rfl ?_); (first | refine M_bool rfl ?_ | refine W_move ?_))
   <;> (first | refine M_bool rfl ?_ | refine W_move ?_))
  (refine W_yes rfl ?_; refine W_load_aggB rfl (bE.keep ek (by simp)) (edtR.len fE) ?_)
  ((first | refine W_no rfl ?_ | (refine W_yes rfl ?_; refine W_build (by rfl) (by rfl) ?_))
   <;> (first | refine W_no rfl ?_ | (refine W_yes rfl ?_; refine W_build (by rfl) (by rfl) ?_)))
  (refine W_yes rfl ?_; refine W_call (sameEdit_ok yk cE [.int .i64 2, strV [], strV [113], .int .i64 0, .int .i64 0, strV [], .int .i64 0, .int .i64 0, .slice none 0 0] ⟨2, ⟨[], [113], 0, zeroF⟩⟩ ⟨2, ⟨[], [113], 0, zeroF⟩⟩ (edtR.ext fE ek) ⟨_, rfl, _, rfl, rfl, FAt.leaf _ _ _ _ _ _⟩) rfl ?_)
  rintro _ yl ⟨b, rfl, hb, el⟩
  obtain rfl : b = true := hb.2 rfl
  (((first | refine M_pick_t rfl ?_ | refine M_pick_f rfl ?_); (first | refine M_bool rfl ?_ | refine W_move ?_))
   <;> (refine M_assign ?_; (first | refine M_bool rfl ?_ | refine W_move ?_))
   <;> refine W_nil ?_)
  repeat' first | refine nx ?_ | refine C_cond_t rfl ?_ | refine C_cond_f rfl ?_ | refine Q_block_on rfl ?_
  have kY := (kX.trans ek).trans el
  (refine C_region ?_)
  -- at operation 0: <dst=(some 168) op=(call <callee=(value (func 34)) args=[(const (string <data=[97, 32, 38, 32, 98]>))] argTypes=[9]>) type=26 guard=none>
  refine W_call (lexK yl _ _ 3 hx12 rfl (hG.ext kY).gv) rfl ?_
  rintro _ ym ⟨la, lc, rfl, em2, _⟩
  ((first | refine M_tuple rfl ?_ | refine W_move ?_)
   <;> refine W_extract rfl rfl ?_
   <;> refine W_extract rfl rfl ?_
   <;> refine W_extract rfl rfl ?_
   <;> (refine M_assign ?_; (first | refine M_slice rfl ?_ | refine W_move ?_))
   <;> (refine M_assign ?_; (first | refine M_int rfl ?_ | refine W_move ?_))
   <;> (refine M_assign ?_; (first | refine M_int rfl ?_ | refine W_move ?_))
   <;> refine W_nil ?_)
  repeat' first | refine nx ?_ | refine C_cond_t rfl ?_ | refine C_cond_f rfl ?_ | refine Q_block_on rfl ?_
  have hnr : nameB [114] = true := by decide
  have hnt : nameB [116, 114, 117, 101] = false := by decide
  (refine C_region ?_
   <;> (first | refine M_bool rfl ?_ | refine W_move ?_)
   <;> (first | refine M_bool rfl ?_ | refine W_move ?_)
   <;> (first | refine W_no rfl ?_ | (refine W_yes rfl ?_; (first | refine M_bool rfl ?_ | refine W_move ?_)))
   <;> ((first | refine M_pick_t rfl ?_ | refine M_pick_f rfl ?_); (first | refine M_bool rfl ?_ | refine W_move ?_))
   <;> (first | refine M_bool rfl ?_ | refine W_move ?_)
   <;> (first | refine W_no rfl ?_ | (refine W_yes rfl ?_; (first | refine M_bool rfl ?_ | refine W_move ?_)))
   <;> ((first | refine M_pick_t rfl ?_ | refine M_pick_f rfl ?_); (first | refine M_bool rfl ?_ | refine W_move ?_))
   <;> (first | refine M_bool rfl ?_ | refine W_move ?_)
   <;> (first | refine W_no rfl ?_ | (refine W_yes rfl ?_; (first | refine M_bool rfl ?_ | refine W_move ?_)))
   <;> ((first | refine M_pick_t rfl ?_ | refine M_pick_f rfl ?_); (first | refine M_bool rfl ?_ | refine W_move ?_))
   <;> (first | refine M_bool rfl ?_ | refine W_move ?_)
   <;> (first | refine W_no rfl ?_ | (refine W_yes rfl ?_; (first | refine M_slice rfl ?_ | refine W_move ?_)))
   <;> (first | refine W_no rfl ?_ | (refine W_yes rfl ?_; refine W_len rfl ?_))
   <;> (first | refine W_no rfl ?_ | (refine W_yes rfl ?_; (refine W_eql rfl rfl (fun hc => ?_) (fun hc => ?_) <;> try (exfalso; omega))))
   <;> ((first | refine M_pick_t rfl ?_ | refine M_pick_f rfl ?_); (first | refine M_bool rfl ?_ | refine W_move ?_))
   <;> (first | refine M_bool rfl ?_ | refine W_move ?_))
  -- at operation 16: <dst=(some 188) op=(call <callee=(value (func 35)) args=[(const (string <data=[114]>))] argTypes=[9]>) type=4 guard=(some [15, true])>
  (refine W_yes rfl ?_; refine W_call (sigName_ok [114] ym (hG.ext (kY.trans em2))) rfl ?_)
  rintro _ yn ⟨rfl, rfl⟩
  rw [hnr]
  (((first | refine M_pick_t rfl ?_ | refine M_pick_f rfl ?_); (first | refine M_bool rfl ?_ | refine W_move ?_))
   <;> (first | refine M_bool rfl ?_ | refine W_move ?_))
  -- at operation 19: <dst=(some 191) op=(call <callee=(value (func 35)) args=[(const (string <data=[116, 114, 117, 101]>))] argTypes=[9]>) type=4 guard=(some [18, true])>
  (refine W_yes rfl ?_; refine W_call (sigName_ok [116, 114, 117, 101] yn (hG.ext (kY.trans em2))) rfl ?_)
  rintro _ yo ⟨rfl, rfl⟩
  rw [hnt]
  ((first | refine W_no rfl ?_ | (refine W_yes rfl ?_; refine W_not rfl ?_))
   <;> ((first | refine M_pick_t rfl ?_ | refine M_pick_f rfl ?_); (first | refine M_bool rfl ?_ | refine W_move ?_))
   <;> (refine M_assign ?_; (first | refine M_bool rfl ?_ | refine W_move ?_))
   <;> refine W_nil ?_)
  repeat' first | refine nx ?_ | refine C_cond_t rfl ?_ | refine C_cond_f rfl ?_ | refine Q_block_on rfl ?_
  exact fin_ret1 rfl ⟨rfl, kY.trans em2⟩
end Go.Proofs.YtmnhnbpnjepkbaaGreatDoor

namespace Go.Proofs.YtmnhnbpnjepkbaaGreatDoor
set_option linter.unusedVariables false

/-! ### What the answers of a program satisfy -/
def Yld (I : (nt : NT) → nt.T → Prop) {α : Type} (Q : α → Prop) : G α → Prop
  | .ret a => Q a
  | .fail => True
  | .look k => ∀ o, Yld I Q (k o)
  | .next g => Yld I Q g
  | .call nt k => ∀ v, I nt v → Yld I Q (k v)
theorem evG_post {I : (nt : NT) → nt.T → Prop} {f : (nt : NT) → List Tok → Option (Ans nt.T)} (hf : ∀ nt l v l', f nt l = some (.ok (v, l')) → I nt v) {α : Type} {Q : α → Prop} :
    ∀ (p : G α), Yld I Q p → ∀ l a l', evG f p l = some (.ok (a, l')) → Q a
  | .ret a, h, l, b, l', e => by cases e; exact h
  | .fail, h, l, b, l', e => by cases e
  | .look k, h, l, b, l', e => evG_post hf (k _) (h _) l b l' e
  | .next g, h, l, b, l', e => evG_post hf g h _ b l' e
  | .call nt k, h, l, b, l', e => by
    simp only [evG] at e
    cases hr : f nt l with
    | none => rw [hr] at e; cases e
    | some x =>
      rw [hr] at e
      cases x with
      | error _ => cases e
      | ok y => exact evG_post hf (k y.1) (h _ (hf _ _ _ _ hr)) _ _ _ e
theorem Yld.triv {I : (nt : NT) → nt.T → Prop} {α : Type} : ∀ p : G α, Yld I (fun _ => True) p
  | .ret _ => trivial
  | .fail => trivial
  | .look k => fun o => Yld.triv (k o)
  | .next g => Yld.triv g
  | .call nt k => fun v _ => Yld.triv (k v)
theorem Yld.bind {I : (nt : NT) → nt.T → Prop} {α β : Type} {R : α → Prop} {Q : β → Prop} {q : α → G β} : ∀ p : G α, Yld I R p → (∀ a, R a → Yld I Q (q a)) → Yld I Q (p.bind q)
  | .ret a, h, h' => h' a h
  | .fail, _, _ => trivial
  | .look k, h, h' => fun o => Yld.bind (k o) (h o) h'
  | .next g, h, h' => Yld.bind g h h'
  | .call nt k, h, h' => fun v hv => Yld.bind (k v) (h v hv) h'
theorem Yld.any {I : (nt : NT) → nt.T → Prop} {α β : Type} {Q : β → Prop} {q : α → G β} (p : G α) (h : ∀ a, Yld I Q (q a)) : Yld I Q (p.bind q) :=
  Yld.bind p (Yld.triv p) fun a _ => h a

def opI : (nt : NT) → nt.T → Prop
  | .formula, f => f.op ≠ 0
  | .orN, f => f.op ≠ 0
  | .andN, f => f.op ≠ 0
  | .untilN, f => f.op ≠ 0
  | .unary, f => f.op ≠ 0
  | .primary, f => f.op ≠ 0
  | .edit, d => d.kind ≠ 0
  | _, _ => True
theorem nodeF_op {op : Int} {a : Fml} {l : List Fml} (h : op ≠ 0) (ha : a.op ≠ 0) : (nodeF op (a :: l)).op ≠ 0 := by
  cases l with
  | nil => exact ha
  | cons b l => exact h
theorem lookup_mem {α : Type} {l : List (List UInt8 × α)} {s : List UInt8} {p : α} (h : l.lookup s = some p) : ∃ t, (t, p) ∈ l := by
  induction l with
  | nil => cases h
  | cons x l ih =>
    rw [List.lookup_cons] at h
    split at h
    · cases h; exact ⟨x.1, List.mem_cons_self⟩
    · obtain ⟨t, ht⟩ := ih h; exact ⟨t, List.mem_cons_of_mem _ ht⟩
theorem take_post {I : (nt : NT) → nt.T → Prop} (tab : List (List UInt8 × Opr)) (h : ∀ x ∈ tab, x.2.op ≠ 0) : Yld I (fun o => ∀ p, o = some p → p.op ≠ 0) (takeG tab) := by
  intro o
  cases o with
  | none => intro p h; cases h
  | some x =>
    show Yld I _ (match tab.lookup x.2 with | some p => .next (.ret (some p)) | none => .ret none)
    cases hl : tab.lookup x.2 with
    | none => intro p h; cases h
    | some q =>
      intro p e
      cases e
      obtain ⟨t, ht⟩ := lookup_mem hl
      exact h _ ht
theorem index_post {I : (nt : NT) → nt.T → Prop} (o : Opr) : Yld I (fun n => ∀ m, n = some m → o.indexed ≠ 0) (indexG o) := by
  unfold indexG
  split
  · intro m h; cases h
  · rename_i hn
    refine Yld.any _ fun b => ?_
    cases b with
    | false => intro m h; cases h
    | true => exact Yld.any _ fun n => Yld.any _ fun _ m _ => hn
theorem post_body : ∀ nt : NT, Yld opI (opI nt) (body nt)
  | .formula => fun a ha => Yld.any _ fun b => by
    cases b with
    | false => exact ha
    | true => intro c _; exact (by decide : (7 : Int) ≠ 0)
  | .orN => fun a ha l _ => nodeF_op (by decide) ha
  | .orL => Yld.triv _
  | .andN => fun a ha l _ => nodeF_op (by decide) ha
  | .andL => Yld.triv _
  | .untilN => fun a ha => Yld.bind _ (take_post infixT (by decide)) fun o ho => by
    cases o with
    | none => exact ha
    | some o => exact Yld.any _ fun n c _ => ho o rfl
  | .unary => Yld.bind _ (take_post prefixT (by decide)) fun o ho => by
    cases o with
    | none => exact fun v hv => hv
    | some o =>
      refine Yld.bind _ (index_post o) fun n hn a _ => ?_
      cases n with
      | none => exact ho o rfl
      | some n => exact hn n rfl
  | .primary => Yld.any _ fun b => by
    cases b with
    | true => exact (by decide : (1 : Int) ≠ 0)
    | false =>
      refine Yld.any _ fun b => ?_
      cases b with
      | true => exact (by decide : (2 : Int) ≠ 0)
      | false =>
        refine Yld.any _ fun b => ?_
        cases b with
        | true => exact fun f hf => Yld.any _ fun _ => hf
        | false =>
          refine Yld.any _ fun s => Yld.any _ fun b => ?_
          cases b with
          | true => exact Yld.any _ fun n => (by decide : (3 : Int) ≠ 0)
          | false =>
            refine Yld.any _ fun b => ?_
            cases b with
            | true => exact Yld.any _ fun n => (by decide : (4 : Int) ≠ 0)
            | false => exact (by decide : (3 : Int) ≠ 0)
  | .req => Yld.triv _
  | .line => Yld.triv _
  | .lines => Yld.triv _
  | .part => Yld.triv _
  | .parts => Yld.triv _
  | .signal => Yld.triv _
  | .sigs => Yld.triv _
  | .spec => Yld.triv _
  | .edit => Yld.any _ fun b => by
    cases b with
    | true => exact Yld.any _ fun s => (by decide : (2 : Int) ≠ 0)
    | false =>
      refine Yld.any _ fun b => ?_
      refine Yld.bind (R := fun k => k ≠ 0) _ ?_ fun k hk => Yld.any _ fun p r _ => hk
      cases b with
      | true => exact (by decide : (1 : Int) ≠ 0)
      | false => exact Yld.any _ fun _ => (by decide : (3 : Int) ≠ 0)
theorem evN_post : ∀ (n : Nat) (nt : NT) (l : List Tok) (v : nt.T) (l' : List Tok), evN n nt l = some (.ok (v, l')) → opI nt v
  | 0, _, _, _, _, h => by cases h
  | n + 1, nt, l, v, l', h => evG_post (evN_post n) (body nt) (post_body nt) l v l' h
theorem whole_post {nt : NT} {l : List Tok} {v : nt.T} {l' : List Tok} (h : Run (whole nt) l (.ok (v, l'))) : opI nt v := by
  rcases Run.call_inv h with ⟨u, m, ⟨n, h1⟩, k, h2⟩ | ⟨e, _, h2⟩
  · have := evN_post (n + 1) nt l u m h1
    simp only [evG] at h2
    cases m with
    | nil => cases h2; exact this
    | cons x m => cases h2
  · cases h2

/-! ### The first token -/
theorem formula_fails {x : Tok} {l : List Tok} (h1 : prefixT.lookup x.text = none) (h2 : seesB [116, 114, 117, 101] (some (bare x)) = false) (h3 : seesB [102, 97, 108, 115, 101] (some (bare x)) = false) (h4 : seesB [40] (some (bare x)) = false) (h5 : nameB x.text = false) :
    Run (whole .formula) (x :: l) (.error (x :: l)) := by
  refine ⟨8, ?_⟩
  have e : bare x = (x.kind, x.text) := rfl
  rw [e] at h2 h3 h4
  simp [evG, evN, body, whole, takeG, accepts, nameG, G.bind, e, h1, h2, h3, h4, h5]
theorem spec_fails {x : Tok} {l : List Tok} (h1 : seesB [105, 110, 112, 117, 116] (some (bare x)) = false) (h2 : seesB [111, 117, 116, 112, 117, 116] (some (bare x)) = false) (h3 : seesB [112, 97, 114, 116] (some (bare x)) = false) :
    Run (whole .spec) (x :: l) (.error (x :: l)) := by
  refine ⟨8, ?_⟩
  simp [evG, evN, body, whole, sees2, G.bind, h1, h2, h3]
theorem edit_fails {x : Tok} {l : List Tok} (h1 : seesB [100, 114, 111, 112] (some (bare x)) = false) (h2 : seesB [97, 100, 100] (some (bare x)) = false) (h3 : seesB [114, 101, 112, 108, 97, 99, 101] (some (bare x)) = false) :
    Run (whole .edit) (x :: l) (.error (x :: l)) := by
  refine ⟨8, ?_⟩
  simp [evG, evN, body, whole, accepts, expect, G.bind, h1, h2, h3]
theorem sees_text {s : List UInt8} {x : Tok} (h : ¬ seesB s (some (bare x)) = false) : x.text = s := by
  have : seesB s (some (bare x)) = true := by simpa using h
  simp [seesB] at this
  exact this.2
theorem sees_not {s : List UInt8} {x : Tok} (h : x.text ≠ s) : seesB s (some (bare x)) = false := by
  simp [seesB, bare, h]
theorem spec_first {x : Tok} {l : List Tok} {y : Spc × List Tok} (h : Run (whole .spec) (x :: l) (.ok y)) : x.text = [105, 110, 112, 117, 116] ∨ x.text = [111, 117, 116, 112, 117, 116] ∨ x.text = [112, 97, 114, 116] := by
  by_cases h1 : seesB [105, 110, 112, 117, 116] (some (bare x)) = false
  · by_cases h2 : seesB [111, 117, 116, 112, 117, 116] (some (bare x)) = false
    · by_cases h3 : seesB [112, 97, 114, 116] (some (bare x)) = false
      · cases h.det (spec_fails h1 h2 h3)
      · exact .inr (.inr (sees_text h3))
    · exact .inr (.inl (sees_text h2))
  · exact .inl (sees_text h1)
theorem edit_first {x : Tok} {l : List Tok} {y : Edt × List Tok} (h : Run (whole .edit) (x :: l) (.ok y)) : x.text = [100, 114, 111, 112] ∨ x.text = [97, 100, 100] ∨ x.text = [114, 101, 112, 108, 97, 99, 101] := by
  by_cases h1 : seesB [100, 114, 111, 112] (some (bare x)) = false
  · by_cases h2 : seesB [97, 100, 100] (some (bare x)) = false
    · by_cases h3 : seesB [114, 101, 112, 108, 97, 99, 101] (some (bare x)) = false
      · cases h.det (edit_fails h1 h2 h3)
      · exact .inr (.inr (sees_text h3))
    · exact .inr (.inl (sees_text h2))
  · exact .inl (sees_text h1)
theorem key_fails {x : Tok} {l : List Tok} {y : Fml × List Tok} (h : Run (whole .formula) (x :: l) (.ok y)) : x.text ≠ [105, 110, 112, 117, 116] ∧ x.text ≠ [111, 117, 116, 112, 117, 116] ∧ x.text ≠ [112, 97, 114, 116] ∧ x.text ≠ [100, 114, 111, 112] ∧ x.text ≠ [97, 100, 100] ∧ x.text ≠ [114, 101, 112, 108, 97, 99, 101] := by
  refine ⟨?_, ?_, ?_, ?_, ?_, ?_⟩ <;>
  · intro e
    cases h.det (formula_fails (x := x) (l := l) (by rw [e]; decide) (sees_not (by rw [e]; decide)) (sees_not (by rw [e]; decide)) (sees_not (by rw [e]; decide)) (by rw [e]; decide))

theorem PRes.loc_le {nt : NT} {t : List UInt8} {e : Int × Nat} (h : PRes nt t (.error e)) : e.2 ≤ t.length := by
  unfold PRes at h
  cases hm : lexM t with
  | error e' =>
    rw [hm] at h; cases h
    obtain ⟨c, p⟩ := e
    by_cases hl : t.length ≤ 6000
    · exact Nat.le_of_lt (err_before hl hm).1
    · unfold lexM at hm
      rw [if_pos (by omega)] at hm
      cases hm
      show 6000 ≤ _; omega
  | ok ts =>
    rw [hm] at h
    obtain ⟨a, h1, h2⟩ := h
    cases a with
    | ok y => cases h2
    | error l =>
      cases l with
      | nil => cases h2; exact Nat.le_refl _
      | cons x l =>
        cases h2
        have hs : (x :: l) <:+ ts := h1.suffix
        have hx : x ∈ ts := hs.subset List.mem_cons_self
        obtain ⟨k, hk, e⟩ := List.getElem_of_mem hx
        obtain ⟨x', h3, h4, _⟩ := ok_upto hm hk
        rw [List.getElem?_eq_getElem hk, e] at h3
        cases h3
        show x.loc ≤ _; omega
theorem PRes.run {nt : NT} {t : List UInt8} {v : nt.T} (h : PRes nt t (.ok v)) : ∃ ts l, lexM t = .ok ts ∧ Run (whole nt) ts (.ok (v, l)) := by
  unfold PRes at h
  cases hm : lexM t with
  | error e => rw [hm] at h; cases h
  | ok ts =>
    rw [hm] at h
    obtain ⟨a, h1, h2⟩ := h
    cases a with
    | ok y => cases h2; exact ⟨ts, y.2, rfl, h1⟩
    | error l => cases l <;> cases h2
theorem PRes.op {nt : NT} {t : List UInt8} {v : nt.T} (h : PRes nt t (.ok v)) : opI nt v := by
  obtain ⟨ts, l, _, h⟩ := h.run
  exact whole_post h
theorem no_tokens {t : List UInt8} (h : lexM t = .ok []) {oS : Out Spc} {oF : Out Fml} {oD : Out Edt} (hS : PRes .spec t oS) (hF : PRes .formula t oF) (hD : PRes .edit t oD) : oS.errno = 0 ∧ oF.errno = 51 ∧ oD.errno = 51 := by
  unfold PRes at hS hF hD
  rw [h] at hS hF hD
  obtain ⟨a, h1, rfl⟩ := hS
  obtain ⟨b, h2, rfl⟩ := hF
  obtain ⟨c, h3, rfl⟩ := hD
  cases h1.det (⟨8, rfl⟩ : Run (whole .spec) [] (.ok (⟨[], []⟩, [])))
  cases h2.det (⟨8, rfl⟩ : Run (whole .formula) [] (.error []))
  cases h3.det (⟨8, rfl⟩ : Run (whole .edit) [] (.error []))
  exact ⟨rfl, rfl, rfl⟩
theorem one_kind {t : List UInt8} {oS : Out Spc} {oF : Out Fml} {oD : Out Edt} (hS : PRes .spec t oS) (hF : PRes .formula t oF) (hD : PRes .edit t oD) :
    ¬ (oS.errno = 0 ∧ oF.errno = 0) ∧ ¬ (oS.errno = 0 ∧ oD.errno = 0) ∧ ¬ (oF.errno = 0 ∧ oD.errno = 0) := by
  have nS : oS.errno = 0 → ∃ ts l v, lexM t = .ok ts ∧ Run (whole .spec) ts (.ok (v, l)) := fun h => by
    obtain ⟨a, rfl⟩ := hS.zero.1 h
    obtain ⟨ts, l, h1, h2⟩ := hS.run
    exact ⟨ts, l, a, h1, h2⟩
  have nF : oF.errno = 0 → ∃ ts l v, lexM t = .ok ts ∧ Run (whole .formula) ts (.ok (v, l)) := fun h => by
    obtain ⟨a, rfl⟩ := hF.zero.1 h
    obtain ⟨ts, l, h1, h2⟩ := hF.run
    exact ⟨ts, l, a, h1, h2⟩
  have nD : oD.errno = 0 → ∃ ts l v, lexM t = .ok ts ∧ Run (whole .edit) ts (.ok (v, l)) := fun h => by
    obtain ⟨a, rfl⟩ := hD.zero.1 h
    obtain ⟨ts, l, h1, h2⟩ := hD.run
    exact ⟨ts, l, a, h1, h2⟩
  have hF0 : ∀ {l v}, ¬ Run (whole .formula) [] (.ok (v, l)) := fun h => by cases h.det (⟨8, rfl⟩ : Run (whole .formula) [] (.error []))
  have hD0 : ∀ {l v}, ¬ Run (whole .edit) [] (.ok (v, l)) := fun h => by cases h.det (⟨8, rfl⟩ : Run (whole .edit) [] (.error []))
  refine ⟨fun ⟨a, b⟩ => ?_, fun ⟨a, b⟩ => ?_, fun ⟨a, b⟩ => ?_⟩
  · obtain ⟨ts, l, v, h1, h2⟩ := nS a
    obtain ⟨ts', l', v', h1', h2'⟩ := nF b
    rw [h1] at h1'; cases h1'
    cases ts with
    | nil => exact hF0 h2'
    | cons x ts =>
      have := key_fails h2'
      rcases spec_first h2 with e | e | e
      · exact this.1 e
      · exact this.2.1 e
      · exact this.2.2.1 e
  · obtain ⟨ts, l, v, h1, h2⟩ := nS a
    obtain ⟨ts', l', v', h1', h2'⟩ := nD b
    rw [h1] at h1'; cases h1'
    cases ts with
    | nil => exact hD0 h2'
    | cons x ts =>
      rcases spec_first h2 with e | e | e <;> rcases edit_first h2' with e' | e' | e' <;> (rw [e] at e'; exact absurd e' (by decide))
  · obtain ⟨ts, l, v, h1, h2⟩ := nF a
    obtain ⟨ts', l', v', h1', h2'⟩ := nD b
    rw [h1] at h1'; cases h1'
    cases ts with
    | nil => exact hF0 h2
    | cons x ts =>
      have := key_fails h2
      rcases edit_first h2' with e | e | e
      · exact this.2.2.2.1 e
      · exact this.2.2.2.2.1 e
      · exact this.2.2.2.2.2 e
theorem Out.loc_bound {nt : NT} {t : List UInt8} {o : Out nt.T} (h : PRes nt t o) : (o.errno = 0 ↔ o.loc = -1) ∧ -1 ≤ o.loc ∧ o.loc ≤ t.length := by
  cases o with
  | ok a => exact ⟨⟨fun _ => rfl, fun _ => rfl⟩, by show (-1 : Int) ≤ -1; omega, by show (-1 : Int) ≤ _; omega⟩
  | error e =>
    have h1 := h.ne
    have h2 := h.loc_le
    show (e.1 = 0 ↔ (e.2 : Int) = -1) ∧ -1 ≤ (e.2 : Int) ∧ (e.2 : Int) ≤ t.length
    exact ⟨⟨fun h => absurd h h1, fun h => by omega⟩, by omega, by omega⟩
end Go.Proofs.YtmnhnbpnjepkbaaGreatDoor

namespace Go.Proofs.YtmnhnbpnjepkbaaGreatDoor
open Go.RowKit
set_option linter.unusedVariables false


theorem gap_ok (t : List UInt8) (w : World) (hl : t.length ≤ 1000000) : Fn Tryz.prog 36 [strV t] w fun v w' => v = .int .i64 (gapW t 0 : Int) ∧ w' = w := by
  refine fn_of_wc Tryz.func36 rfl Tryz.ntmps36 (Nat.le_of_ble_eq_true rfl) (by kernel_rfl) ?_
  repeat' first | refine nx ?_ | refine C_cond_t rfl ?_ | refine C_cond_f rfl ?_ | refine Q_block_on rfl ?_
  (refine C_region ?_
   <;> (refine M_assign ?_; (first | refine M_int rfl ?_ | refine W_move ?_))
   <;> refine W_nil ?_)
  repeat' first | refine nx ?_ | refine C_cond_t rfl ?_ | refine C_cond_f rfl ?_ | refine Q_block_on rfl ?_
  (refine C_region ?_
   <;> (refine M_assign ?_; (first | refine M_int rfl ?_ | refine W_move ?_))
   <;> refine W_nil ?_)
  repeat' first | refine nx ?_ | refine C_cond_t rfl ?_ | refine C_cond_f rfl ?_ | refine Q_block_on rfl ?_
  refine C_loop (α := Nat) (fun a => [(0, strV t), (3, .int .i64 (a : Int))]) (fun a w1 => a ≤ t.length ∧ gapW t a = gapW t 0 ∧ w1 = w) (fun a => t.length - a) 0 ⟨rfl, rfl, trivial⟩ ⟨by omega, rfl, rfl⟩ ?_
  rintro a w1 f1 ⟨ha, hg, rfl⟩
  repeat' first | refine nx ?_ | refine C_cond_t rfl ?_ | refine C_cond_f rfl ?_ | refine Q_block_on rfl ?_
  by_cases hlt : a < t.length
  · have hc0 : t[a]? = some t[a] := List.getElem?_eq_getElem hlt
    generalize t[a] = c at hc0
    rw [gapW_step hc0] at hg
    (refine C_region ?_
     <;> (first | refine M_int rfl ?_ | refine W_move ?_)
     <;> (first | refine M_str rfl ?_ | refine W_move ?_)
     <;> refine W_slen rfl ?_
     <;> (refine W_lss rfl rfl (fun hc => ?_) (fun hc => ?_) <;> try (exfalso; omega))
     <;> refine W_nil ?_)
    repeat' first | refine nx ?_ | refine C_cond_t rfl ?_ | refine C_cond_f rfl ?_ | refine Q_block_on rfl ?_
    by_cases h37 : c.toNat = 37
    · rw [if_pos h37] at hg
      (refine C_region ?_
       <;> (first | refine M_str rfl ?_ | refine W_move ?_)
       <;> (first | refine M_int rfl ?_ | refine W_move ?_)
       <;> (first | refine W_sidx rfl rfl (by assumption) ?_ | refine W_sidx (j := 0) rfl rfl (by assumption) ?_)
       <;> (refine W_eql rfl rfl (fun hc => ?_) (fun hc => ?_) <;> try (exfalso; omega))
       <;> refine W_nil ?_)
      repeat' first | refine nx ?_ | refine C_cond_t rfl ?_ | refine C_cond_f rfl ?_ | refine Q_block_on rfl ?_
      have hle := whileB_le (p := inComm) (t := t) (a := a) (by omega)
      have hst := whileB_step (p := inComm) hc0 (by simp [inComm, h37])
      have hge := whileB_ge inComm t (a + 1)
      refine C_loop (α := Nat) (fun j => [(0, strV t), (3, .int .i64 (j : Int))]) (fun j w2 => j ≤ t.length ∧ whileB inComm t j = whileB inComm t a ∧ w2 = w1) (fun j => t.length - j) a ⟨rfl, rfl, trivial⟩ ⟨by omega, rfl, rfl⟩ ?_
      rintro j w2 f2 ⟨hj, hw, rfl⟩
      repeat' first | refine nx ?_ | refine C_cond_t rfl ?_ | refine C_cond_f rfl ?_ | refine Q_block_on rfl ?_
      by_cases hjl : j < t.length
      · have hcj : t[j]? = some t[j] := List.getElem?_eq_getElem hjl
        generalize t[j] = d at hcj
        by_cases h10 : d.toNat = 10
        · (refine C_region ?_
           <;> (first | refine M_int rfl ?_ | refine W_move ?_)
           <;> (first | refine M_str rfl ?_ | refine W_move ?_)
           <;> refine W_slen rfl ?_
           <;> (refine W_lss rfl rfl (fun hc => ?_) (fun hc => ?_) <;> try (exfalso; omega))
           <;> (first | refine M_bool rfl ?_ | refine W_move ?_)
           <;> (first | refine W_no rfl ?_ | (refine W_yes rfl ?_; (first | refine M_str rfl ?_ | refine W_move ?_)))
           <;> (first | refine W_no rfl ?_ | (refine W_yes rfl ?_; (first | refine M_int rfl ?_ | refine W_move ?_)))
           <;> (first | refine W_no rfl ?_ | (refine W_yes rfl ?_; (first | refine W_sidx rfl rfl (by assumption) ?_ | refine W_sidx (j := 0) rfl rfl (by assumption) ?_)))
           <;> (first | refine W_no rfl ?_ | (refine W_yes rfl ?_; (refine W_neq rfl rfl (fun hc => ?_) (fun hc => ?_) <;> try (exfalso; omega))))
           <;> ((first | refine M_pick_t rfl ?_ | refine M_pick_f rfl ?_); (first | refine M_bool rfl ?_ | refine W_move ?_))
           <;> refine W_nil ?_)
          repeat' first | refine nx ?_ | refine C_cond_t rfl ?_ | refine C_cond_f rfl ?_ | refine Q_block_on rfl ?_
          have hjw := whileB_stop (p := inComm) hcj (by simp [inComm, h10])
          exact ⟨j, ⟨rfl, ⟨rfl, rfl, trivial⟩, ⟨hj, by rw [← hg, ← hw, hjw], rfl⟩⟩, by omega⟩
        · (refine C_region ?_
           <;> (first | refine M_int rfl ?_ | refine W_move ?_)
           <;> (first | refine M_str rfl ?_ | refine W_move ?_)
           <;> refine W_slen rfl ?_
           <;> (refine W_lss rfl rfl (fun hc => ?_) (fun hc => ?_) <;> try (exfalso; omega))
           <;> (first | refine M_bool rfl ?_ | refine W_move ?_)
           <;> (first | refine W_no rfl ?_ | (refine W_yes rfl ?_; (first | refine M_str rfl ?_ | refine W_move ?_)))
           <;> (first | refine W_no rfl ?_ | (refine W_yes rfl ?_; (first | refine M_int rfl ?_ | refine W_move ?_)))
           <;> (first | refine W_no rfl ?_ | (refine W_yes rfl ?_; (first | refine W_sidx rfl rfl (by assumption) ?_ | refine W_sidx (j := 0) rfl rfl (by assumption) ?_)))
           <;> (first | refine W_no rfl ?_ | (refine W_yes rfl ?_; (refine W_neq rfl rfl (fun hc => ?_) (fun hc => ?_) <;> try (exfalso; omega))))
           <;> ((first | refine M_pick_t rfl ?_ | refine M_pick_f rfl ?_); (first | refine M_bool rfl ?_ | refine W_move ?_))
           <;> refine W_nil ?_)
          repeat' first | refine nx ?_ | refine C_cond_t rfl ?_ | refine C_cond_f rfl ?_ | refine Q_block_on rfl ?_
          (refine C_region ?_
           <;> (first | refine M_int rfl ?_ | refine W_move ?_)
           <;> refine W_add rfl rfl (by first | exact inR_i64 (by omega) (by omega) | exact inR_u8 (by omega) (by omega) | exact inR_u16 (by omega) (by omega)) ?_
           <;> (refine M_assign ?_; (first | refine M_int rfl ?_ | refine W_move ?_))
           <;> refine W_nil ?_)
          repeat' first | refine nx ?_ | refine C_cond_t rfl ?_ | refine C_cond_f rfl ?_ | refine Q_block_on rfl ?_
          have hjw := whileB_step (p := inComm) hcj (by simp [inComm, h10])
          refine ⟨j + 1, ⟨rfl, ⟨rfl, ?_, trivial⟩, ⟨by omega, by rw [← hw, hjw], rfl⟩⟩, by omega⟩
          show Value.int .i64 ((j : Int) + 1) = _
          rw [Int.natCast_add]; rfl
      · (refine C_region ?_
         <;> (first | refine M_int rfl ?_ | refine W_move ?_)
         <;> (first | refine M_str rfl ?_ | refine W_move ?_)
         <;> refine W_slen rfl ?_
         <;> (refine W_lss rfl rfl (fun hc => ?_) (fun hc => ?_) <;> try (exfalso; omega))
         <;> (first | refine M_bool rfl ?_ | refine W_move ?_)
         <;> (first | refine W_no rfl ?_ | (refine W_yes rfl ?_; (first | refine M_str rfl ?_ | refine W_move ?_)))
         <;> (first | refine W_no rfl ?_ | (refine W_yes rfl ?_; (first | refine M_int rfl ?_ | refine W_move ?_)))
         <;> (first | refine W_no rfl ?_ | (refine W_yes rfl ?_; (first | refine W_sidx rfl rfl (by assumption) ?_ | refine W_sidx (j := 0) rfl rfl (by assumption) ?_)))
         <;> (first | refine W_no rfl ?_ | (refine W_yes rfl ?_; (refine W_neq rfl rfl (fun hc => ?_) (fun hc => ?_) <;> try (exfalso; omega))))
         <;> ((first | refine M_pick_t rfl ?_ | refine M_pick_f rfl ?_); (first | refine M_bool rfl ?_ | refine W_move ?_))
         <;> refine W_nil ?_)
        repeat' first | refine nx ?_ | refine C_cond_t rfl ?_ | refine C_cond_f rfl ?_ | refine Q_block_on rfl ?_
        have hjw := whileB_end (p := inComm) (t := t) (a := j) (by omega)
        exact ⟨j, ⟨rfl, ⟨rfl, rfl, trivial⟩, ⟨hj, by rw [← hg, ← hw, hjw], rfl⟩⟩, by omega⟩
    · rw [if_neg h37] at hg
      (refine C_region ?_
       <;> (first | refine M_str rfl ?_ | refine W_move ?_)
       <;> (first | refine M_int rfl ?_ | refine W_move ?_)
       <;> (first | refine W_sidx rfl rfl (by assumption) ?_ | refine W_sidx (j := 0) rfl rfl (by assumption) ?_)
       <;> (refine W_eql rfl rfl (fun hc => ?_) (fun hc => ?_) <;> try (exfalso; omega))
       <;> refine W_nil ?_)
      repeat' first | refine nx ?_ | refine C_cond_t rfl ?_ | refine C_cond_f rfl ?_ | refine Q_block_on rfl ?_
      (refine C_region ?_
       <;> (first | refine M_str rfl ?_ | refine W_move ?_)
       <;> (first | refine M_int rfl ?_ | refine W_move ?_)
       <;> (first | refine W_sidx rfl rfl (by assumption) ?_ | refine W_sidx (j := 0) rfl rfl (by assumption) ?_))
      -- at operation 3: <dst=(some 27) op=(call <callee=(value (func 52)) args=[(tmp 26)] argTypes=[5]>) type=4 guard=none>
      refine W_call (blankB_ok c _) rfl ?_
      rintro v w2 ⟨rfl, rfl⟩
      refine W_nil ?_
      cases hb : isBlank c with
      | true =>
        rw [if_pos hb] at hg
        repeat' first | refine nx ?_ | refine C_cond_t rfl ?_ | refine C_cond_f rfl ?_ | refine Q_block_on rfl ?_
        (refine C_region ?_
         <;> (first | refine M_int rfl ?_ | refine W_move ?_)
         <;> refine W_add rfl rfl (by first | exact inR_i64 (by omega) (by omega) | exact inR_u8 (by omega) (by omega) | exact inR_u16 (by omega) (by omega)) ?_
         <;> (refine M_assign ?_; (first | refine M_int rfl ?_ | refine W_move ?_))
         <;> refine W_nil ?_)
        repeat' first | refine nx ?_ | refine C_cond_t rfl ?_ | refine C_cond_f rfl ?_ | refine Q_block_on rfl ?_
        refine ⟨a + 1, ⟨rfl, ⟨rfl, ?_, trivial⟩, ⟨by omega, hg, rfl⟩⟩, by omega⟩
        show Value.int .i64 ((a : Int) + 1) = _
        rw [Int.natCast_add]; rfl
      | false =>
        rw [hb, if_neg (by simp)] at hg
        repeat' first | refine nx ?_ | refine C_cond_t rfl ?_ | refine C_cond_f rfl ?_ | refine Q_block_on rfl ?_
        (refine C_region ?_
         <;> (first | refine M_int rfl ?_ | refine W_move ?_)
         <;> (refine M_assign ?_; (first | refine M_int rfl ?_ | refine W_move ?_))
         <;> refine W_nil ?_)
        repeat' first | refine nx ?_ | refine C_cond_t rfl ?_ | refine C_cond_f rfl ?_ | refine Q_block_on rfl ?_
        exact fin_ret1 rfl ⟨by rw [← hg]; rfl, rfl⟩
  · obtain rfl : a = t.length := by omega
    (refine C_region ?_
     <;> (first | refine M_int rfl ?_ | refine W_move ?_)
     <;> (first | refine M_str rfl ?_ | refine W_move ?_)
     <;> refine W_slen rfl ?_
     <;> (refine W_lss rfl rfl (fun hc => ?_) (fun hc => ?_) <;> try (exfalso; omega))
     <;> refine W_nil ?_)
    repeat' first | refine nx ?_ | refine C_cond_t rfl ?_ | refine C_cond_f rfl ?_ | refine Q_block_on rfl ?_
    (refine C_region ?_
     <;> (first | refine M_int rfl ?_ | refine W_move ?_)
     <;> (refine M_assign ?_; (first | refine M_int rfl ?_ | refine W_move ?_))
     <;> refine W_nil ?_)
    repeat' first | refine nx ?_ | refine C_cond_t rfl ?_ | refine C_cond_f rfl ?_ | refine Q_block_on rfl ?_
    exact fin_ret1 rfl ⟨by rw [← hg, gapW_end]; rfl, rfl⟩
end Go.Proofs.YtmnhnbpnjepkbaaGreatDoor
