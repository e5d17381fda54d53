/- The lexer: the scan of a text. Conditions: none. -/
import Derived.Test.YteonolnfgppagaaDoorX5
namespace Go.Proofs.YteonolnfgppagaaDoor
open Go.RowKit
set_option linter.unusedVariables false

def inSpan (c : UInt8) (p : Nat × Nat × Nat) : Bool := decide (p.1 ≤ c.toNat) && decide (c.toNat ≤ p.2.1)
def kindB (c : UInt8) : Option Nat := (spansL.find? (inSpan c)).map (·.2.2)
def stepM (t : List UInt8) (a : Nat) (ts : List Tok) : Res :=
  match kindB (t.getD a 0) with
  | some 0 => blankM a ts
  | some 1 => commM t a ts
  | some 2 => nameM t a ts
  | some 3 => numM t a ts
  | some _ => symM t a ts
  | none => .error (40, a)
def scanF (t : List UInt8) : Nat → Nat → List Tok → Res
  | 0, a, _ => .error (40, a)
  | n + 1, a, ts => if a < t.length then (match stepM t a ts with | .ok (a', ts') => scanF t n a' ts' | .error e => .error e) else .ok (a, ts)
def scanR (t : List UInt8) : Res := scanF t (t.length + 1) 0 []

theorem addM_ok {t : List UInt8} {a n a' : Nat} {ts ts' : List Tok} {k : Int} (h : addM t a ts k n = .ok (a', ts')) : a' = n := by
  unfold addM at h
  split at h
  · cases h
  · cases h; rfl
theorem kindB_dig {c : UInt8} (h : kindB c = some 3) : isDig c = true := by
  unfold kindB at h
  obtain ⟨p, hp, hk⟩ := Option.map_eq_some_iff.1 h
  have h1 := List.find?_some hp
  have h2 := List.mem_of_find?_eq_some hp
  simp [spansL] at h2
  rcases h2 with rfl | rfl | rfl | rfl | rfl | rfl | rfl | rfl | rfl | rfl | rfl | rfl | rfl | rfl | rfl | rfl <;> simp at hk
  simpa [inSpan, isDig] using h1
theorem kindB_comm {c : UInt8} (h : kindB c = some 1) : inComm c = true := by
  unfold kindB at h
  obtain ⟨p, hp, hk⟩ := Option.map_eq_some_iff.1 h
  have h1 := List.find?_some hp
  have h2 := List.mem_of_find?_eq_some hp
  simp [spansL] at h2
  rcases h2 with rfl | rfl | rfl | rfl | rfl | rfl | rfl | rfl | rfl | rfl | rfl | rfl | rfl | rfl | rfl | rfl <;> simp at hk
  simp [inSpan] at h1
  simp [inComm]; omega
theorem step_on {t : List UInt8} {a a' : Nat} {ts ts' : List Tok} (hl : a < t.length) (h : stepM t a ts = .ok (a', ts')) : a < a' := by
  have hc : t[a]? = some t[a] := List.getElem?_eq_getElem hl
  generalize t[a] = c at hc
  unfold stepM at h
  rw [getD_of hc] at h
  split at h
  · cases h; omega
  · cases h
    rw [whileB_step hc (kindB_comm (by assumption))]
    have := whileB_ge inComm t (a + 1); omega
  · unfold nameM at h
    split at h
    · cases h
    · have := addM_ok h; have := whileB_ge inName t (a + 1); omega
  · unfold numM at h
    split at h
    · cases h
    · have := addM_ok h
      rw [whileB_step hc (kindB_dig (by assumption))] at this
      have := whileB_ge isDig t (a + 1); omega
  · unfold symM at h
    split at h
    · rename_i y hy
      have h2 := List.mem_of_find?_eq_some hy
      have := addM_ok h
      have hne : ∀ y ∈ symsL, 1 ≤ y.length := by decide
      have := hne y h2; omega
    · cases h
  · cases h

theorem spanC_at : ∀ (l : List (Nat × Nat × Nat)) (k : Nat) (p : Nat × Nat × Nat), l[k]? = some p → ((l.flatMap spanC1).drop (k * 3)).take 3 = spanC1 p
  | [], k, p, h => by simp at h
  | q :: l, 0, p, h => by simp at h; subst h; simp [spanC1]
  | q :: l, k + 1, p, h => by
    have := spanC_at l k p (by simpa using h)
    rw [← this, List.flatMap_cons, List.drop_append, List.drop_eq_nil_of_le (by simp [spanC1]; omega), List.nil_append]
    congr 2
    simp [spanC1]; omega

/-- the scanner's functions -/
def fnC (s : Nat) : List Value := [.func (.func 18) #[pt s] #[], .func (.func 19) #[pt s] #[], .func (.func 20) #[pt s] #[], .func (.func 21) #[pt s] #[], .func (.func 22) #[pt s] #[]]

theorem scan_ok (w : World) (s : Nat) (t : List UInt8) (hb : Blk w s 43 [strV t, .int .i64 0, .slice none 0 0]) (hG : GV w) (hs2 : 2 ≤ s) (hl : t.length ≤ 6000) : FnS 16 [pt s] w w s t (scanR t) := by
  have hsz := hb.lt
  refine fnP_of_wc Tryd.func16 rfl Tryd.ntmps16 (Nat.le_of_ble_eq_true rfl) (by kernel_rfl) ?_
  repeat'
    first
      | refine Q_then ?_ | refine C_cond_t rfl ?_ | refine C_cond_f rfl ?_ | refine C_seq ?_ | refine C_block ?_ | refine C_skip ?_ | refine C_ret ?_ | refine C_exit ?_
      | refine Q_then_ret ?_ | refine Q_then_exit ?_ | refine Q_block ?_ | refine Q_block_ret ?_ | refine Q_block_here ?_ | refine Q_block_on rfl ?_ | refine C_scope ?_ | refine C_label ?_ | refine Q_asn ?_ | refine Q_then_pan ?_ | refine Q_block_pan ?_ | refine Q_scope (fun l h => by cases h) ?_
  (refine C_region ?_
   <;> (first | refine M_ptr rfl ?_ | refine W_move ?_)
   <;> refine W_makeFunc rfl rfl ?_
   <;> (first | refine M_ptr rfl ?_ | refine W_move ?_)
   <;> refine W_makeFunc rfl rfl ?_
   <;> (first | refine M_ptr rfl ?_ | refine W_move ?_)
   <;> refine W_makeFunc rfl rfl ?_
   <;> (first | refine M_ptr rfl ?_ | refine W_move ?_)
   <;> refine W_makeFunc rfl rfl ?_
   <;> (first | refine M_ptr rfl ?_ | refine W_move ?_)
   <;> refine W_makeFunc rfl rfl ?_
   <;> refine W_buildArr (by rfl) (by rfl) ?_)
  -- at operation 11: <dst=(some 2) op=(alloc 46) type=0 guard=none>
  refine W_alloc (fun w1 n1 => ?_)
  refine W_store_agg (cs := fnC s) rfl rfl rfl (by intro u hu; simp [fnC] at hu; rcases hu with rfl | rfl | rfl | rfl | rfl <;> rfl) n1.blk (by simp [fnC]) (fun w2 p2 => ?_)
  have hb2 : Blk w2 w.heap.size 46 (fnC s) := p2.blk
  have k2 : Ext w w2 := n1.keep.keep p2.keep (by simp)
  have hbs := hb.keep k2 (by simp)
  refine W_nil ?_
  repeat'
    first
      | refine Q_then ?_ | refine C_cond_t rfl ?_ | refine C_cond_f rfl ?_ | refine C_seq ?_ | refine C_block ?_ | refine C_skip ?_ | refine C_ret ?_ | refine C_exit ?_
      | refine Q_then_ret ?_ | refine Q_then_exit ?_ | refine Q_block ?_ | refine Q_block_ret ?_ | refine Q_block_here ?_ | refine Q_block_on rfl ?_ | refine C_scope ?_ | refine C_label ?_ | refine Q_asn ?_ | refine Q_then_pan ?_ | refine Q_block_pan ?_ | refine Q_scope (fun l h => by cases h) ?_
  have hG2 := hG.ext k2
  have hs0 : St w2 w2 s t 0 [] := ⟨Keep.refl _ _, by have := k2.size; omega, hl, by omega, by simp, _, hbs, ⟨rfl, .inl ⟨rfl, rfl⟩⟩⟩
  have hb2lt := hb2.lt
  -- what the whole scan answers, said of the world before the functions' table
  have hfin : ∀ w' a ts, St w2 w' s t a ts → St w w' s t a ts := fun w' a ts h => by
    obtain ⟨hk, hs, hl, ha, hn, tv, hb, ho⟩ := h
    exact ⟨k2.any.trans hk fun x hx _ => hx, hsz, hl, ha, hn, tv, hb, ownsRow_mono ho k2.size⟩
  have hpan : ∀ w', Keep [s] w2 w' → Keep [s] w w' := fun w' h => k2.any.trans h fun x hx _ => hx
  refine C_loop (α := Nat × Nat × List Tok) (fun _ => [(0, pt s), (2, pt w.heap.size)]) (fun x w1 => St w2 w1 s t x.2.1 x.2.2 ∧ t.length < x.1 + x.2.1 ∧ scanF t x.1 x.2.1 x.2.2 = scanR t) (fun x => x.1) (t.length + 1, 0, []) ⟨rfl, rfl, trivial⟩ ⟨hs0, by simp, rfl⟩ ?_
  rintro ⟨n, a, ts⟩ w3 f' ⟨hst, hn, hr⟩
  simp only at hst hn hr ⊢
  obtain ⟨n, rfl⟩ : ∃ m, n = m + 1 := ⟨n - 1, by have := hst.loc; omega⟩
  unfold scanF at hr
  repeat'
    first
      | refine Q_then ?_ | refine C_cond_t rfl ?_ | refine C_cond_f rfl ?_ | refine C_seq ?_ | refine C_block ?_ | refine C_skip ?_ | refine C_ret ?_ | refine C_exit ?_
      | refine Q_then_ret ?_ | refine Q_then_exit ?_ | refine Q_block ?_ | refine Q_block_ret ?_ | refine Q_block_here ?_ | refine Q_block_on rfl ?_ | refine C_scope ?_ | refine C_label ?_ | refine Q_asn ?_ | refine Q_then_pan ?_ | refine Q_block_pan ?_ | refine Q_scope (fun l h => by cases h) ?_
  refine C_drawN (.read 0 (.read 1 (.read 2 (.read 3 (.read 4 (.read 5 (.read 6 (.read 7 (.read 8 (.read 9 .done)))))))))) mixed (by kernel_rfl) (fun wd kd ed => ⟨fun W => W = wd, ?_, ?_⟩)
  · rfl
  obtain ⟨hk3, hs3, _, ha3, hn3, tv3, hb3, ho3⟩ := id hst
  have hbd := hb3.keep kd (by simp)
  by_cases hlt : a < t.length
  · rw [if_pos hlt] at hr
    ((apply D_R rfl rfl; (intro W hW; subst hW; (first | refine M_ptr rfl ?_ | refine W_move ?_); exact W_nil ⟨rfl, rfl, rfl⟩))
     <;> (apply D_R rfl rfl; (intro W hW; subst hW; refine W_nilCheck rfl ?_; exact W_nil ⟨rfl, rfl, rfl⟩))
     <;> (apply D_R rfl rfl; (intro W hW; subst hW; refine W_fieldAddr rfl ?_; exact W_nil ⟨rfl, rfl, rfl⟩))
     <;> (apply D_R rfl rfl; (intro W hW; subst hW; (first | refine W_load rfl (Blk.cell (by assumption) (by rfl)) ?_ | refine W_load rfl (by assumption) ?_); exact W_nil ⟨rfl, rfl, rfl⟩))
     <;> (apply D_R rfl rfl; (intro W hW; subst hW; (first | refine M_ptr rfl ?_ | refine W_move ?_); exact W_nil ⟨rfl, rfl, rfl⟩))
     <;> (apply D_R rfl rfl; (intro W hW; subst hW; refine W_nilCheck rfl ?_; exact W_nil ⟨rfl, rfl, rfl⟩))
     <;> (apply D_R rfl rfl; (intro W hW; subst hW; refine W_fieldAddr rfl ?_; exact W_nil ⟨rfl, rfl, rfl⟩))
     <;> (apply D_R rfl rfl; (intro W hW; subst hW; (first | refine W_load rfl (Blk.cell (by assumption) (by rfl)) ?_ | refine W_load rfl (by assumption) ?_); exact W_nil ⟨rfl, rfl, rfl⟩))
     <;> (apply D_R rfl rfl; (intro W hW; subst hW; refine W_slen rfl ?_; exact W_nil ⟨rfl, rfl, rfl⟩))
     <;> (refine D_lss rfl rfl rfl rfl (fun hc => ?_) (fun hc => ?_) <;> try (exfalso; omega))
     <;> refine D_nil ?_)
    have hstd := hst.ext kd
    have hc : t[a]? = some t[a] := List.getElem?_eq_getElem hlt
    generalize t[a] = c at hc
    have hGd : GV wd := hG2.keep hstd.keep (by simp; omega) (by simp; omega)
    have hb2d : Blk wd w.heap.size 46 (fnC s) := hb2.keep hstd.keep (by simp; omega)
    repeat'
      first
        | refine Q_then ?_ | refine C_cond_t rfl ?_ | refine C_cond_f rfl ?_ | refine C_seq ?_ | refine C_block ?_ | refine C_skip ?_ | refine C_ret ?_ | refine C_exit ?_
        | refine Q_then_ret ?_ | refine Q_then_exit ?_ | refine Q_block ?_ | refine Q_block_ret ?_ | refine Q_block_here ?_ | refine Q_block_on rfl ?_ | refine C_scope ?_ | refine C_label ?_ | refine Q_asn ?_ | refine Q_then_pan ?_ | refine Q_block_pan ?_ | refine Q_scope (fun l h => by cases h) ?_
    clear hbd
    refine C_drawN (.read 0 (.read 1 (.read 2 (.read 3 (.read 4 (.read 5 (.read 6 (.read 7 (.read 8 (.read 9 .done)))))))))) mixed (by kernel_rfl) (fun wd kd ed => ⟨fun W => W = wd, ?_, ?_⟩)
    · rfl
    have hbd := (hb3.keep (by assumption) (by simp)).keep kd (by simp)
    ((apply D_R rfl rfl; (intro W hW; subst hW; (first | refine M_ptr rfl ?_ | refine W_move ?_); exact W_nil ⟨rfl, rfl, rfl⟩))
     <;> (apply D_R rfl rfl; (intro W hW; subst hW; refine W_nilCheck rfl ?_; exact W_nil ⟨rfl, rfl, rfl⟩))
     <;> (apply D_R rfl rfl; (intro W hW; subst hW; refine W_fieldAddr rfl ?_; exact W_nil ⟨rfl, rfl, rfl⟩))
     <;> (apply D_R rfl rfl; (intro W hW; subst hW; (first | refine W_load rfl (Blk.cell (by assumption) (by rfl)) ?_ | refine W_load rfl (by assumption) ?_); exact W_nil ⟨rfl, rfl, rfl⟩))
     <;> (apply D_R rfl rfl; (intro W hW; subst hW; (first | refine M_ptr rfl ?_ | refine W_move ?_); exact W_nil ⟨rfl, rfl, rfl⟩))
     <;> (apply D_R rfl rfl; (intro W hW; subst hW; refine W_nilCheck rfl ?_; exact W_nil ⟨rfl, rfl, rfl⟩))
     <;> (apply D_R rfl rfl; (intro W hW; subst hW; refine W_fieldAddr rfl ?_; exact W_nil ⟨rfl, rfl, rfl⟩))
     <;> (apply D_R rfl rfl; (intro W hW; subst hW; (first | refine W_load rfl (Blk.cell (by assumption) (by rfl)) ?_ | refine W_load rfl (by assumption) ?_); exact W_nil ⟨rfl, rfl, rfl⟩))
     <;> (apply D_R rfl rfl; (intro W hW; subst hW; refine W_sidx rfl rfl (by assumption) ?_; exact W_nil ⟨rfl, rfl, rfl⟩))
     <;> (apply D_R rfl rfl; (intro W hW; subst hW; (refine M_assign ?_; (first | refine M_int rfl ?_ | refine W_move ?_)); exact W_nil ⟨rfl, rfl, rfl⟩))
     <;> refine D_nil ?_)
    have hst4 := hstd.ext kd
    have hG4 := hGd.ext kd
    have hb4 := hb2d.keep kd (by simp)
    clear hbd
    repeat'
      first
        | refine Q_then ?_ | refine C_cond_t rfl ?_ | refine C_cond_f rfl ?_ | refine C_seq ?_ | refine C_block ?_ | refine C_skip ?_ | refine C_ret ?_ | refine C_exit ?_
        | refine Q_then_ret ?_ | refine Q_then_exit ?_ | refine Q_block ?_ | refine Q_block_ret ?_ | refine Q_block_here ?_ | refine Q_block_on rfl ?_ | refine C_scope ?_ | refine C_label ?_ | refine Q_asn ?_ | refine Q_then_pan ?_ | refine Q_block_pan ?_ | refine Q_scope (fun l h => by cases h) ?_
    (refine C_region ?_; refine W_load_agg rfl rfl hG4.spans ?_; refine M_int rfl ?_; refine W_nil ?_)
    repeat'
      first
        | refine Q_then ?_ | refine C_cond_t rfl ?_ | refine C_cond_f rfl ?_ | refine C_seq ?_ | refine C_block ?_ | refine C_skip ?_ | refine C_ret ?_ | refine C_exit ?_
        | refine Q_then_ret ?_ | refine Q_then_exit ?_ | refine Q_block ?_ | refine Q_block_ret ?_ | refine Q_block_here ?_ | refine Q_block_on rfl ?_ | refine C_scope ?_ | refine C_label ?_ | refine Q_asn ?_ | refine Q_then_pan ?_ | refine Q_block_pan ?_ | refine Q_scope (fun l h => by cases h) ?_
    have hst5 : stepM t a ts = match (spansL.find? (inSpan c)).map (·.2.2) with | some 0 => blankM a ts | some 1 => commM t a ts | some 2 => nameM t a ts | some 3 => numM t a ts | some _ => symM t a ts | none => .error (40, a) := by
      unfold stepM; rw [getD_of hc]; rfl
    refine C_loop (α := Nat) (fun k => [(0, pt s), (2, pt w.heap.size), (3, enc8 c), (36, .agg spanC.toArray), (37, .int .i64 (k : Int))]) (fun k w5 => k ≤ 16 ∧ Ext wd w5 ∧ spansL.find? (inSpan c) = (spansL.drop k).find? (inSpan c)) (fun k => 16 - k) 0 ⟨rfl, rfl, rfl, rfl, rfl, trivial⟩ ⟨by omega, Ext.refl _, rfl⟩ ?_
    rintro k w5 f5 ⟨hk, hw5, hf⟩
    have h5 := hst4.ext hw5
    repeat'
      first
        | refine Q_then ?_ | refine C_cond_t rfl ?_ | refine C_cond_f rfl ?_ | refine C_seq ?_ | refine C_block ?_ | refine C_skip ?_ | refine C_ret ?_ | refine C_exit ?_
        | refine Q_then_ret ?_ | refine Q_then_exit ?_ | refine Q_block ?_ | refine Q_block_ret ?_ | refine Q_block_here ?_ | refine Q_block_on rfl ?_ | refine C_scope ?_ | refine C_label ?_ | refine Q_asn ?_ | refine Q_then_pan ?_ | refine Q_block_pan ?_ | refine Q_scope (fun l h => by cases h) ?_
    by_cases hlk : k < 16
    · have hp : spansL[k]? = some spansL[k] := List.getElem?_eq_getElem hlk
      generalize spansL[k] = p at hp
      rw [find_step hp] at hf
      have hpm : p.2.2 < 5 := by
        have : ∀ p ∈ spansL, p.2.2 < 5 := by decide
        exact this p (List.mem_of_getElem? hp)
      (refine C_region ?_
       <;> (refine W_lss rfl rfl (fun hc => ?_) (fun hc => ?_) <;> try (exfalso; omega))
       <;> refine W_nil ?_)
      repeat'
        first
          | refine Q_then ?_ | refine C_cond_t rfl ?_ | refine C_cond_f rfl ?_ | refine C_seq ?_ | refine C_block ?_ | refine C_skip ?_ | refine C_ret ?_ | refine C_exit ?_
          | refine Q_then_ret ?_ | refine Q_then_exit ?_ | refine Q_block ?_ | refine Q_block_ret ?_ | refine Q_block_here ?_ | refine Q_block_on rfl ?_ | refine C_scope ?_ | refine C_label ?_ | refine Q_asn ?_ | refine Q_then_pan ?_ | refine Q_block_pan ?_ | refine Q_scope (fun l h => by cases h) ?_
      (refine C_region ?_; refine W_vidx rfl rfl hlk (spanC_at _ _ _ hp) ?_; refine W_alloc (fun w6 n6 => ?_))
      refine W_store_agg (cs := spanC1 p) rfl rfl rfl (by intro u hu; simp [spanC1] at hu; rcases hu with rfl | rfl | rfl <;> rfl) n6.blk (by simp [spanC1]) (fun w7 p7 => ?_)
      have b7 : Blk w7 w5.heap.size 48 (spanC1 p) := p7.blk
      have k7 : Ext w5 w7 := n6.keep.keep p7.keep (by simp)
      have h7 := h5.ext k7
      refine W_nil ?_
      repeat'
        first
          | refine Q_then ?_ | refine C_cond_t rfl ?_ | refine C_cond_f rfl ?_ | refine C_seq ?_ | refine C_block ?_ | refine C_skip ?_ | refine C_ret ?_ | refine C_exit ?_
          | refine Q_then_ret ?_ | refine Q_then_exit ?_ | refine Q_block ?_ | refine Q_block_ret ?_ | refine Q_block_here ?_ | refine Q_block_on rfl ?_ | refine C_scope ?_ | refine C_label ?_ | refine Q_asn ?_ | refine Q_then_pan ?_ | refine Q_block_pan ?_ | refine Q_scope (fun l h => by cases h) ?_
      have hb7 : Blk w7 w.heap.size 46 (fnC s) := (hb4.keep hw5 (by simp)).keep k7 (by simp)
      obtain ⟨p1, p2, p3⟩ := p
      simp only at hpm
      replace b7 : Blk w7 w5.heap.size 48 [.int .u8 (p1 : Int), .int .u8 (p2 : Int), .int .i64 (p3 : Int)] := b7
      by_cases c1 : p1 ≤ c.toNat
      · by_cases c2 : c.toNat ≤ p2
        · rw [if_pos (by simp [inSpan, c1, c2])] at hf
          (refine C_region ?_
           <;> refine W_fieldAddr rfl ?_
           <;> (first | refine W_load rfl (Blk.cell (by assumption) (by rfl)) ?_ | refine W_load rfl (by assumption) ?_)
           <;> (first | refine M_int rfl ?_ | refine W_move ?_)
           <;> (refine W_leq rfl rfl (fun hc => ?_) (fun hc => ?_) <;> try (exfalso; omega))
           <;> (first | refine M_bool rfl ?_ | refine W_move ?_)
           <;> (first | refine W_no rfl ?_ | (refine W_yes rfl ?_; (first | refine M_int rfl ?_ | refine W_move ?_)))
           <;> (first | refine W_no rfl ?_ | (refine W_yes rfl ?_; refine W_fieldAddr rfl ?_))
           <;> (first | refine W_no rfl ?_ | (refine W_yes rfl ?_; (first | refine W_load rfl (Blk.cell (by assumption) (by rfl)) ?_ | refine W_load rfl (by assumption) ?_)))
           <;> (first | refine W_no rfl ?_ | (refine W_yes rfl ?_; (refine W_leq rfl rfl (fun hc => ?_) (fun hc => ?_) <;> try (exfalso; omega))))
           <;> ((first | refine M_pick_t rfl ?_ | refine M_pick_f rfl ?_); (first | refine M_bool rfl ?_ | refine W_move ?_))
           <;> refine W_nil ?_)
          repeat'
            first
              | refine Q_then ?_ | refine C_cond_t rfl ?_ | refine C_cond_f rfl ?_ | refine C_seq ?_ | refine C_block ?_ | refine C_skip ?_ | refine C_ret ?_ | refine C_exit ?_
              | refine Q_then_ret ?_ | refine Q_then_exit ?_ | refine Q_block ?_ | refine Q_block_ret ?_ | refine Q_block_here ?_ | refine Q_block_on rfl ?_ | refine C_scope ?_ | refine C_label ?_ | refine Q_asn ?_ | refine Q_then_pan ?_ | refine Q_block_pan ?_ | refine Q_scope (fun l h => by cases h) ?_
          obtain rfl | rfl | rfl | rfl | rfl : p3 = 0 ∨ p3 = 1 ∨ p3 = 2 ∨ p3 = 3 ∨ p3 = 4 := by omega
          · have e0 : stepM t a ts = blankM a ts := by rw [hst5, hf]; rfl
            (refine C_region ?_
             <;> refine W_fieldAddr rfl ?_
             <;> (first | refine W_load rfl (Blk.cell (by assumption) (by rfl)) ?_ | refine W_load rfl (by assumption) ?_)
             <;> refine W_indexArr rfl rfl (by omega) (by omega) ?_
             <;> (first | refine W_load rfl (Blk.cell (by assumption) (by rfl)) ?_ | refine W_load rfl (by assumption) ?_))
            -- at operation 4: <dst=(some 54) op=(call <callee=(value (tmp 53)) args=[] argTypes=[]>) type=0 guard=none>
            refine W_callvP (v1 := [pt s]) (v2 := []) (vs := []) rfl (blank_ok w2 _ s a t ts h7 hlt) rfl ?_ ?_
            · rintro v w8 ⟨rfl, a', ts', he, h8⟩
              have hee := e0.trans he
              rw [hee] at hr
              refine W_nil ?_
              repeat'
                first
                  | refine Q_then ?_ | refine C_cond_t rfl ?_ | refine C_cond_f rfl ?_ | refine C_seq ?_ | refine C_block ?_ | refine C_skip ?_ | refine C_ret ?_ | refine C_exit ?_
                  | refine Q_then_ret ?_ | refine Q_then_exit ?_ | refine Q_block ?_ | refine Q_block_ret ?_ | refine Q_block_here ?_ | refine Q_block_on rfl ?_ | refine C_scope ?_ | refine C_label ?_ | refine Q_asn ?_ | refine Q_then_pan ?_ | refine Q_block_pan ?_ | refine Q_scope (fun l h => by cases h) ?_
              exact ⟨(n, a', ts'), ⟨rfl, ⟨rfl, rfl, trivial⟩, ⟨h8, by have := step_on hlt hee; simp only; omega, hr⟩⟩, Nat.lt_succ_self _⟩
            · rintro ch w8 ⟨e, q, he, rfl, h8⟩
              have hee := e0.trans he
              rw [hee] at hr
              repeat'
                first
                  | refine Q_then ?_ | refine C_cond_t rfl ?_ | refine C_cond_f rfl ?_ | refine C_seq ?_ | refine C_block ?_ | refine C_skip ?_ | refine C_ret ?_ | refine C_exit ?_
                  | refine Q_then_ret ?_ | refine Q_then_exit ?_ | refine Q_block ?_ | refine Q_block_ret ?_ | refine Q_block_here ?_ | refine Q_block_on rfl ?_ | refine C_scope ?_ | refine C_label ?_ | refine Q_asn ?_ | refine Q_then_pan ?_ | refine Q_block_pan ?_ | refine Q_scope (fun l h => by cases h) ?_
              exact fin_pan ⟨e, q, hr.symm, rfl, hpan _ h8⟩
          · have e0 : stepM t a ts = commM t a ts := by rw [hst5, hf]; rfl
            (refine C_region ?_
             <;> refine W_fieldAddr rfl ?_
             <;> (first | refine W_load rfl (Blk.cell (by assumption) (by rfl)) ?_ | refine W_load rfl (by assumption) ?_)
             <;> refine W_indexArr rfl rfl (by omega) (by omega) ?_
             <;> (first | refine W_load rfl (Blk.cell (by assumption) (by rfl)) ?_ | refine W_load rfl (by assumption) ?_))
            -- at operation 4: <dst=(some 54) op=(call <callee=(value (tmp 53)) args=[] argTypes=[]>) type=0 guard=none>
            refine W_callvP (v1 := [pt s]) (v2 := []) (vs := []) rfl (comment_ok w2 _ s a t ts h7) rfl ?_ ?_
            · rintro v w8 ⟨rfl, a', ts', he, h8⟩
              have hee := e0.trans he
              rw [hee] at hr
              refine W_nil ?_
              repeat'
                first
                  | refine Q_then ?_ | refine C_cond_t rfl ?_ | refine C_cond_f rfl ?_ | refine C_seq ?_ | refine C_block ?_ | refine C_skip ?_ | refine C_ret ?_ | refine C_exit ?_
                  | refine Q_then_ret ?_ | refine Q_then_exit ?_ | refine Q_block ?_ | refine Q_block_ret ?_ | refine Q_block_here ?_ | refine Q_block_on rfl ?_ | refine C_scope ?_ | refine C_label ?_ | refine Q_asn ?_ | refine Q_then_pan ?_ | refine Q_block_pan ?_ | refine Q_scope (fun l h => by cases h) ?_
              exact ⟨(n, a', ts'), ⟨rfl, ⟨rfl, rfl, trivial⟩, ⟨h8, by have := step_on hlt hee; simp only; omega, hr⟩⟩, Nat.lt_succ_self _⟩
            · rintro ch w8 ⟨e, q, he, rfl, h8⟩
              have hee := e0.trans he
              rw [hee] at hr
              repeat'
                first
                  | refine Q_then ?_ | refine C_cond_t rfl ?_ | refine C_cond_f rfl ?_ | refine C_seq ?_ | refine C_block ?_ | refine C_skip ?_ | refine C_ret ?_ | refine C_exit ?_
                  | refine Q_then_ret ?_ | refine Q_then_exit ?_ | refine Q_block ?_ | refine Q_block_ret ?_ | refine Q_block_here ?_ | refine Q_block_on rfl ?_ | refine C_scope ?_ | refine C_label ?_ | refine Q_asn ?_ | refine Q_then_pan ?_ | refine Q_block_pan ?_ | refine Q_scope (fun l h => by cases h) ?_
              exact fin_pan ⟨e, q, hr.symm, rfl, hpan _ h8⟩
          · have e0 : stepM t a ts = nameM t a ts := by rw [hst5, hf]; rfl
            (refine C_region ?_
             <;> refine W_fieldAddr rfl ?_
             <;> (first | refine W_load rfl (Blk.cell (by assumption) (by rfl)) ?_ | refine W_load rfl (by assumption) ?_)
             <;> refine W_indexArr rfl rfl (by omega) (by omega) ?_
             <;> (first | refine W_load rfl (Blk.cell (by assumption) (by rfl)) ?_ | refine W_load rfl (by assumption) ?_))
            -- at operation 4: <dst=(some 54) op=(call <callee=(value (tmp 53)) args=[] argTypes=[]>) type=0 guard=none>
            refine W_callvP (v1 := [pt s]) (v2 := []) (vs := []) rfl (scanName_ok w2 _ s a t ts h7 hlt) rfl ?_ ?_
            · rintro v w8 ⟨rfl, a', ts', he, h8⟩
              have hee := e0.trans he
              rw [hee] at hr
              refine W_nil ?_
              repeat'
                first
                  | refine Q_then ?_ | refine C_cond_t rfl ?_ | refine C_cond_f rfl ?_ | refine C_seq ?_ | refine C_block ?_ | refine C_skip ?_ | refine C_ret ?_ | refine C_exit ?_
                  | refine Q_then_ret ?_ | refine Q_then_exit ?_ | refine Q_block ?_ | refine Q_block_ret ?_ | refine Q_block_here ?_ | refine Q_block_on rfl ?_ | refine C_scope ?_ | refine C_label ?_ | refine Q_asn ?_ | refine Q_then_pan ?_ | refine Q_block_pan ?_ | refine Q_scope (fun l h => by cases h) ?_
              exact ⟨(n, a', ts'), ⟨rfl, ⟨rfl, rfl, trivial⟩, ⟨h8, by have := step_on hlt hee; simp only; omega, hr⟩⟩, Nat.lt_succ_self _⟩
            · rintro ch w8 ⟨e, q, he, rfl, h8⟩
              have hee := e0.trans he
              rw [hee] at hr
              repeat'
                first
                  | refine Q_then ?_ | refine C_cond_t rfl ?_ | refine C_cond_f rfl ?_ | refine C_seq ?_ | refine C_block ?_ | refine C_skip ?_ | refine C_ret ?_ | refine C_exit ?_
                  | refine Q_then_ret ?_ | refine Q_then_exit ?_ | refine Q_block ?_ | refine Q_block_ret ?_ | refine Q_block_here ?_ | refine Q_block_on rfl ?_ | refine C_scope ?_ | refine C_label ?_ | refine Q_asn ?_ | refine Q_then_pan ?_ | refine Q_block_pan ?_ | refine Q_scope (fun l h => by cases h) ?_
              exact fin_pan ⟨e, q, hr.symm, rfl, hpan _ h8⟩
          · have e0 : stepM t a ts = numM t a ts := by rw [hst5, hf]; rfl
            (refine C_region ?_
             <;> refine W_fieldAddr rfl ?_
             <;> (first | refine W_load rfl (Blk.cell (by assumption) (by rfl)) ?_ | refine W_load rfl (by assumption) ?_)
             <;> refine W_indexArr rfl rfl (by omega) (by omega) ?_
             <;> (first | refine W_load rfl (Blk.cell (by assumption) (by rfl)) ?_ | refine W_load rfl (by assumption) ?_))
            -- at operation 4: <dst=(some 54) op=(call <callee=(value (tmp 53)) args=[] argTypes=[]>) type=0 guard=none>
            refine W_callvP (v1 := [pt s]) (v2 := []) (vs := []) rfl (scanNumber_ok w2 _ s a t ts h7 hlt) rfl ?_ ?_
            · rintro v w8 ⟨rfl, a', ts', he, h8⟩
              have hee := e0.trans he
              rw [hee] at hr
              refine W_nil ?_
              repeat'
                first
                  | refine Q_then ?_ | refine C_cond_t rfl ?_ | refine C_cond_f rfl ?_ | refine C_seq ?_ | refine C_block ?_ | refine C_skip ?_ | refine C_ret ?_ | refine C_exit ?_
                  | refine Q_then_ret ?_ | refine Q_then_exit ?_ | refine Q_block ?_ | refine Q_block_ret ?_ | refine Q_block_here ?_ | refine Q_block_on rfl ?_ | refine C_scope ?_ | refine C_label ?_ | refine Q_asn ?_ | refine Q_then_pan ?_ | refine Q_block_pan ?_ | refine Q_scope (fun l h => by cases h) ?_
              exact ⟨(n, a', ts'), ⟨rfl, ⟨rfl, rfl, trivial⟩, ⟨h8, by have := step_on hlt hee; simp only; omega, hr⟩⟩, Nat.lt_succ_self _⟩
            · rintro ch w8 ⟨e, q, he, rfl, h8⟩
              have hee := e0.trans he
              rw [hee] at hr
              repeat'
                first
                  | refine Q_then ?_ | refine C_cond_t rfl ?_ | refine C_cond_f rfl ?_ | refine C_seq ?_ | refine C_block ?_ | refine C_skip ?_ | refine C_ret ?_ | refine C_exit ?_
                  | refine Q_then_ret ?_ | refine Q_then_exit ?_ | refine Q_block ?_ | refine Q_block_ret ?_ | refine Q_block_here ?_ | refine Q_block_on rfl ?_ | refine C_scope ?_ | refine C_label ?_ | refine Q_asn ?_ | refine Q_then_pan ?_ | refine Q_block_pan ?_ | refine Q_scope (fun l h => by cases h) ?_
              exact fin_pan ⟨e, q, hr.symm, rfl, hpan _ h8⟩
          · have e0 : stepM t a ts = symM t a ts := by rw [hst5, hf]; rfl
            (refine C_region ?_
             <;> refine W_fieldAddr rfl ?_
             <;> (first | refine W_load rfl (Blk.cell (by assumption) (by rfl)) ?_ | refine W_load rfl (by assumption) ?_)
             <;> refine W_indexArr rfl rfl (by omega) (by omega) ?_
             <;> (first | refine W_load rfl (Blk.cell (by assumption) (by rfl)) ?_ | refine W_load rfl (by assumption) ?_))
            -- at operation 4: <dst=(some 54) op=(call <callee=(value (tmp 53)) args=[] argTypes=[]>) type=0 guard=none>
            refine W_callvP (v1 := [pt s]) (v2 := []) (vs := []) rfl (symbol_ok w2 _ s a t ts h7 hlt hG2 hs2) rfl ?_ ?_
            · rintro v w8 ⟨rfl, a', ts', he, h8⟩
              have hee := e0.trans he
              rw [hee] at hr
              refine W_nil ?_
              repeat'
                first
                  | refine Q_then ?_ | refine C_cond_t rfl ?_ | refine C_cond_f rfl ?_ | refine C_seq ?_ | refine C_block ?_ | refine C_skip ?_ | refine C_ret ?_ | refine C_exit ?_
                  | refine Q_then_ret ?_ | refine Q_then_exit ?_ | refine Q_block ?_ | refine Q_block_ret ?_ | refine Q_block_here ?_ | refine Q_block_on rfl ?_ | refine C_scope ?_ | refine C_label ?_ | refine Q_asn ?_ | refine Q_then_pan ?_ | refine Q_block_pan ?_ | refine Q_scope (fun l h => by cases h) ?_
              exact ⟨(n, a', ts'), ⟨rfl, ⟨rfl, rfl, trivial⟩, ⟨h8, by have := step_on hlt hee; simp only; omega, hr⟩⟩, Nat.lt_succ_self _⟩
            · rintro ch w8 ⟨e, q, he, rfl, h8⟩
              have hee := e0.trans he
              rw [hee] at hr
              repeat'
                first
                  | refine Q_then ?_ | refine C_cond_t rfl ?_ | refine C_cond_f rfl ?_ | refine C_seq ?_ | refine C_block ?_ | refine C_skip ?_ | refine C_ret ?_ | refine C_exit ?_
                  | refine Q_then_ret ?_ | refine Q_then_exit ?_ | refine Q_block ?_ | refine Q_block_ret ?_ | refine Q_block_here ?_ | refine Q_block_on rfl ?_ | refine C_scope ?_ | refine C_label ?_ | refine Q_asn ?_ | refine Q_then_pan ?_ | refine Q_block_pan ?_ | refine Q_scope (fun l h => by cases h) ?_
              exact fin_pan ⟨e, q, hr.symm, rfl, hpan _ h8⟩
        · rw [if_neg (by simp [inSpan, c2])] at hf
          (refine C_region ?_
           <;> refine W_fieldAddr rfl ?_
           <;> (first | refine W_load rfl (Blk.cell (by assumption) (by rfl)) ?_ | refine W_load rfl (by assumption) ?_)
           <;> (first | refine M_int rfl ?_ | refine W_move ?_)
           <;> (refine W_leq rfl rfl (fun hc => ?_) (fun hc => ?_) <;> try (exfalso; omega))
           <;> (first | refine M_bool rfl ?_ | refine W_move ?_)
           <;> (first | refine W_no rfl ?_ | (refine W_yes rfl ?_; (first | refine M_int rfl ?_ | refine W_move ?_)))
           <;> (first | refine W_no rfl ?_ | (refine W_yes rfl ?_; refine W_fieldAddr rfl ?_))
           <;> (first | refine W_no rfl ?_ | (refine W_yes rfl ?_; (first | refine W_load rfl (Blk.cell (by assumption) (by rfl)) ?_ | refine W_load rfl (by assumption) ?_)))
           <;> (first | refine W_no rfl ?_ | (refine W_yes rfl ?_; (refine W_leq rfl rfl (fun hc => ?_) (fun hc => ?_) <;> try (exfalso; omega))))
           <;> ((first | refine M_pick_t rfl ?_ | refine M_pick_f rfl ?_); (first | refine M_bool rfl ?_ | refine W_move ?_))
           <;> refine W_nil ?_)
          repeat'
            first
              | refine Q_then ?_ | refine C_cond_t rfl ?_ | refine C_cond_f rfl ?_ | refine C_seq ?_ | refine C_block ?_ | refine C_skip ?_ | refine C_ret ?_ | refine C_exit ?_
              | refine Q_then_ret ?_ | refine Q_then_exit ?_ | refine Q_block ?_ | refine Q_block_ret ?_ | refine Q_block_here ?_ | refine Q_block_on rfl ?_ | refine C_scope ?_ | refine C_label ?_ | refine Q_asn ?_ | refine Q_then_pan ?_ | refine Q_block_pan ?_ | refine Q_scope (fun l h => by cases h) ?_
          (refine C_region ?_
           <;> refine W_add rfl rfl (by first | exact inR_i64 (by omega) (by omega) | exact inR_u8 (by omega) (by omega) | exact inR_u16 (by omega) (by omega)) ?_
           <;> (first | refine M_int rfl ?_ | refine W_move ?_)
           <;> refine W_nil ?_)
          repeat'
            first
              | refine Q_then ?_ | refine C_cond_t rfl ?_ | refine C_cond_f rfl ?_ | refine C_seq ?_ | refine C_block ?_ | refine C_skip ?_ | refine C_ret ?_ | refine C_exit ?_
              | refine Q_then_ret ?_ | refine Q_then_exit ?_ | refine Q_block ?_ | refine Q_block_ret ?_ | refine Q_block_here ?_ | refine Q_block_on rfl ?_ | refine C_scope ?_ | refine C_label ?_ | refine Q_asn ?_ | refine Q_then_pan ?_ | refine Q_block_pan ?_ | refine Q_scope (fun l h => by cases h) ?_
          refine ⟨k + 1, ⟨rfl, ⟨rfl, rfl, rfl, rfl, ?_, trivial⟩, ⟨by omega, hw5.trans k7, hf⟩⟩, by omega⟩
          show Value.int .i64 ((k : Int) + 1) = _
          rw [Int.natCast_add]; rfl
      · rw [if_neg (by simp [inSpan, c1])] at hf
        (refine C_region ?_
         <;> refine W_fieldAddr rfl ?_
         <;> (first | refine W_load rfl (Blk.cell (by assumption) (by rfl)) ?_ | refine W_load rfl (by assumption) ?_)
         <;> (first | refine M_int rfl ?_ | refine W_move ?_)
         <;> (refine W_leq rfl rfl (fun hc => ?_) (fun hc => ?_) <;> try (exfalso; omega))
         <;> (first | refine M_bool rfl ?_ | refine W_move ?_)
         <;> (first | refine W_no rfl ?_ | (refine W_yes rfl ?_; (first | refine M_int rfl ?_ | refine W_move ?_)))
         <;> (first | refine W_no rfl ?_ | (refine W_yes rfl ?_; refine W_fieldAddr rfl ?_))
         <;> (first | refine W_no rfl ?_ | (refine W_yes rfl ?_; (first | refine W_load rfl (Blk.cell (by assumption) (by rfl)) ?_ | refine W_load rfl (by assumption) ?_)))
         <;> (first | refine W_no rfl ?_ | (refine W_yes rfl ?_; (refine W_leq rfl rfl (fun hc => ?_) (fun hc => ?_) <;> try (exfalso; omega))))
         <;> ((first | refine M_pick_t rfl ?_ | refine M_pick_f rfl ?_); (first | refine M_bool rfl ?_ | refine W_move ?_))
         <;> refine W_nil ?_)
        repeat'
          first
            | refine Q_then ?_ | refine C_cond_t rfl ?_ | refine C_cond_f rfl ?_ | refine C_seq ?_ | refine C_block ?_ | refine C_skip ?_ | refine C_ret ?_ | refine C_exit ?_
            | refine Q_then_ret ?_ | refine Q_then_exit ?_ | refine Q_block ?_ | refine Q_block_ret ?_ | refine Q_block_here ?_ | refine Q_block_on rfl ?_ | refine C_scope ?_ | refine C_label ?_ | refine Q_asn ?_ | refine Q_then_pan ?_ | refine Q_block_pan ?_ | refine Q_scope (fun l h => by cases h) ?_
        (refine C_region ?_
         <;> refine W_add rfl rfl (by first | exact inR_i64 (by omega) (by omega) | exact inR_u8 (by omega) (by omega) | exact inR_u16 (by omega) (by omega)) ?_
         <;> (first | refine M_int rfl ?_ | refine W_move ?_)
         <;> refine W_nil ?_)
        repeat'
          first
            | refine Q_then ?_ | refine C_cond_t rfl ?_ | refine C_cond_f rfl ?_ | refine C_seq ?_ | refine C_block ?_ | refine C_skip ?_ | refine C_ret ?_ | refine C_exit ?_
            | refine Q_then_ret ?_ | refine Q_then_exit ?_ | refine Q_block ?_ | refine Q_block_ret ?_ | refine Q_block_here ?_ | refine Q_block_on rfl ?_ | refine C_scope ?_ | refine C_label ?_ | refine Q_asn ?_ | refine Q_then_pan ?_ | refine Q_block_pan ?_ | refine Q_scope (fun l h => by cases h) ?_
        refine ⟨k + 1, ⟨rfl, ⟨rfl, rfl, rfl, rfl, ?_, trivial⟩, ⟨by omega, hw5.trans k7, hf⟩⟩, by omega⟩
        show Value.int .i64 ((k : Int) + 1) = _
        rw [Int.natCast_add]; rfl
    · obtain ⟨hk6, hs6, _, ha6, hn6, tv6, hb6, ho6⟩ := id h5
      (refine C_region ?_
       <;> (refine W_lss rfl rfl (fun hc => ?_) (fun hc => ?_) <;> try (exfalso; omega))
       <;> refine W_nil ?_)
      repeat'
        first
          | refine Q_then ?_ | refine C_cond_t rfl ?_ | refine C_cond_f rfl ?_ | refine C_seq ?_ | refine C_block ?_ | refine C_skip ?_ | refine C_ret ?_ | refine C_exit ?_
          | refine Q_then_ret ?_ | refine Q_then_exit ?_ | refine Q_block ?_ | refine Q_block_ret ?_ | refine Q_block_here ?_ | refine Q_block_on rfl ?_ | refine C_scope ?_ | refine C_label ?_ | refine Q_asn ?_ | refine Q_then_pan ?_ | refine Q_block_pan ?_ | refine Q_scope (fun l h => by cases h) ?_
      (refine C_region ?_
       <;> (first | refine M_ptr rfl ?_ | refine W_move ?_)
       <;> refine W_nilCheck rfl ?_
       <;> refine W_fieldAddr rfl ?_
       <;> (first | refine W_load rfl (Blk.cell (by assumption) (by rfl)) ?_ | refine W_load rfl (by assumption) ?_)
       <;> refine W_build (by rfl) (by rfl) ?_
       <;> refine W_iface ?_
       <;> refine W_panic rfl ?_)
      repeat'
        first
          | refine Q_then ?_ | refine C_cond_t rfl ?_ | refine C_cond_f rfl ?_ | refine C_seq ?_ | refine C_block ?_ | refine C_skip ?_ | refine C_ret ?_ | refine C_exit ?_
          | refine Q_then_ret ?_ | refine Q_then_exit ?_ | refine Q_block ?_ | refine Q_block_ret ?_ | refine Q_block_here ?_ | refine Q_block_on rfl ?_ | refine C_scope ?_ | refine C_label ?_ | refine Q_asn ?_ | refine Q_then_pan ?_ | refine Q_block_pan ?_ | refine Q_scope (fun l h => by cases h) ?_
      have hd : spansL.drop k = [] := List.drop_eq_nil_of_le (by show 16 ≤ k; omega)
      rw [hd] at hf
      rw [hst5, hf] at hr
      exact fin_pan ⟨_, _, hr.symm, rfl, hpan _ hk6⟩
  · rw [if_neg hlt] at hr
    ((apply D_R rfl rfl; (intro W hW; subst hW; (first | refine M_ptr rfl ?_ | refine W_move ?_); exact W_nil ⟨rfl, rfl, rfl⟩))
     <;> (apply D_R rfl rfl; (intro W hW; subst hW; refine W_nilCheck rfl ?_; exact W_nil ⟨rfl, rfl, rfl⟩))
     <;> (apply D_R rfl rfl; (intro W hW; subst hW; refine W_fieldAddr rfl ?_; exact W_nil ⟨rfl, rfl, rfl⟩))
     <;> (apply D_R rfl rfl; (intro W hW; subst hW; (first | refine W_load rfl (Blk.cell (by assumption) (by rfl)) ?_ | refine W_load rfl (by assumption) ?_); exact W_nil ⟨rfl, rfl, rfl⟩))
     <;> (apply D_R rfl rfl; (intro W hW; subst hW; (first | refine M_ptr rfl ?_ | refine W_move ?_); exact W_nil ⟨rfl, rfl, rfl⟩))
     <;> (apply D_R rfl rfl; (intro W hW; subst hW; refine W_nilCheck rfl ?_; exact W_nil ⟨rfl, rfl, rfl⟩))
     <;> (apply D_R rfl rfl; (intro W hW; subst hW; refine W_fieldAddr rfl ?_; exact W_nil ⟨rfl, rfl, rfl⟩))
     <;> (apply D_R rfl rfl; (intro W hW; subst hW; (first | refine W_load rfl (Blk.cell (by assumption) (by rfl)) ?_ | refine W_load rfl (by assumption) ?_); exact W_nil ⟨rfl, rfl, rfl⟩))
     <;> (apply D_R rfl rfl; (intro W hW; subst hW; refine W_slen rfl ?_; exact W_nil ⟨rfl, rfl, rfl⟩))
     <;> (refine D_lss rfl rfl rfl rfl (fun hc => ?_) (fun hc => ?_) <;> try (exfalso; omega))
     <;> refine D_nil ?_)
    repeat'
      first
        | refine Q_then ?_ | refine C_cond_t rfl ?_ | refine C_cond_f rfl ?_ | refine C_seq ?_ | refine C_block ?_ | refine C_skip ?_ | refine C_ret ?_ | refine C_exit ?_
        | refine Q_then_ret ?_ | refine Q_then_exit ?_ | refine Q_block ?_ | refine Q_block_ret ?_ | refine Q_block_here ?_ | refine Q_block_on rfl ?_ | refine C_scope ?_ | refine C_label ?_ | refine Q_asn ?_ | refine Q_then_pan ?_ | refine Q_block_pan ?_ | refine Q_scope (fun l h => by cases h) ?_
    exact fin_end0 rfl ⟨rfl, _, _, hr.symm, hfin _ _ _ (hst.ext kd)⟩
end Go.Proofs.YteonolnfgppagaaDoor
