/- The lexer: the scan of a text. Rules: deferred calls that recover, what an interface holds, results that lie in cells. The lexer: Lex, and its deferred call. The lexer: what Lex answers. The lexer: tokens read, the fixed examples. The lexer's plain law: the scan without fuel, texts that go on after a line feed. The lexer's plain law: steps of a scan, the beginning of a text. The lexer's plain law: a text behind another one. Conditions: none. -/
import Derived.Test.YtmnhnbpnjepkbaaGreatDoorK1A4
import Derived.RecoverIn

namespace Go.Proofs.YtmnhnbpnjepkbaaGreatDoor
open Go.RowKit
set_option linter.unusedVariables false

def inSpan (c : UInt8) (p : Nat × Nat × Nat) : Bool := decide (p.1 ≤ c.toNat) && decide (c.toNat ≤ p.2.1)
def kindB (c : UInt8) : Option Nat := (spansL.find? (inSpan c)).map (·.2.2)
def stepM (t : List UInt8) (a : Nat) (ts : List Tok) : Res :=
  match kindB (t.getD a 0) with
  | some 0 => blankM a ts
  | some 1 => commM t a ts
  | some 2 => nameM t a ts
  | some 3 => numM t a ts
  | some _ => symM t a ts
  | none => .error (40, a)
def scanF (t : List UInt8) : Nat → Nat → List Tok → Res
  | 0, a, _ => .error (40, a)
  | n + 1, a, ts => if a < t.length then (match stepM t a ts with | .ok (a', ts') => scanF t n a' ts' | .error e => .error e) else .ok (a, ts)
def scanR (t : List UInt8) : Res := scanF t (t.length + 1) 0 []

theorem addM_ok {t : List UInt8} {a n a' : Nat} {ts ts' : List Tok} {k : Int} (h : addM t a ts k n = .ok (a', ts')) : a' = n := by
  unfold addM at h
  split at h
  · cases h
  · cases h; rfl
theorem kindB_dig {c : UInt8} (h : kindB c = some 3) : isDig c = true := by
  unfold kindB at h
  obtain ⟨p, hp, hk⟩ := Option.map_eq_some_iff.1 h
  have h1 := List.find?_some hp
  have h2 := List.mem_of_find?_eq_some hp
  simp [spansL] at h2
  rcases h2 with rfl | rfl | rfl | rfl | rfl | rfl | rfl | rfl | rfl | rfl | rfl | rfl | rfl | rfl | rfl | rfl <;> simp at hk
  simpa [inSpan, isDig] using h1
theorem kindB_comm {c : UInt8} (h : kindB c = some 1) : inComm c = true := by
  unfold kindB at h
  obtain ⟨p, hp, hk⟩ := Option.map_eq_some_iff.1 h
  have h1 := List.find?_some hp
  have h2 := List.mem_of_find?_eq_some hp
  simp [spansL] at h2
  rcases h2 with rfl | rfl | rfl | rfl | rfl | rfl | rfl | rfl | rfl | rfl | rfl | rfl | rfl | rfl | rfl | rfl <;> simp at hk
  simp [inSpan] at h1
  simp [inComm]; omega
theorem step_on {t : List UInt8} {a a' : Nat} {ts ts' : List Tok} (hl : a < t.length) (h : stepM t a ts = .ok (a', ts')) : a < a' := by
  have hc : t[a]? = some t[a] := List.getElem?_eq_getElem hl
  generalize t[a] = c at hc
  unfold stepM at h
  rw [getD_of hc] at h
  split at h
  · cases h; omega
  · cases h
    rw [whileB_step hc (kindB_comm (by assumption))]
    have := whileB_ge inComm t (a + 1); omega
  · unfold nameM at h
    split at h
    · cases h
    · have := addM_ok h; have := whileB_ge inName t (a + 1); omega
  · unfold numM at h
    split at h
    · cases h
    · have := addM_ok h
      rw [whileB_step hc (kindB_dig (by assumption))] at this
      have := whileB_ge isDig t (a + 1); omega
  · unfold symM at h
    split at h
    · rename_i y hy
      have h2 := List.mem_of_find?_eq_some hy
      have := addM_ok h
      have hne : ∀ y ∈ symsL, 1 ≤ y.length := by decide
      have := hne y h2; omega
    · cases h
  · cases h

theorem spanC_at : ∀ (l : List (Nat × Nat × Nat)) (k : Nat) (p : Nat × Nat × Nat), l[k]? = some p → ((l.flatMap spanC1).drop (k * 3)).take 3 = spanC1 p
  | [], k, p, h => by simp at h
  | q :: l, 0, p, h => by simp at h; subst h; simp [spanC1]
  | q :: l, k + 1, p, h => by
    have := spanC_at l k p (by simpa using h)
    rw [← this, List.flatMap_cons, List.drop_append, List.drop_eq_nil_of_le (by simp [spanC1]; omega), List.nil_append]
    congr 2
    simp [spanC1]; omega

/-- the scanner's functions -/
def fnC (s : Nat) : List Value := [.func (.func 77) #[pt s] #[], .func (.func 78) #[pt s] #[], .func (.func 79) #[pt s] #[], .func (.func 80) #[pt s] #[], .func (.func 81) #[pt s] #[]]

theorem scan_ok (w : World) (s : Nat) (t : List UInt8) (hb : Blk w s 102 [strV t, .int .i64 0, .slice none 0 0]) (hG : GV w) (hs2 : 8 ≤ s) (hl : t.length ≤ 6000) : FnS 51 [pt s] w w s t (scanR t) := by
  have hsz := hb.lt
  refine fnP_of_wc Tryz.func51 rfl Tryz.ntmps51 (Nat.le_of_ble_eq_true rfl) (by kernel_rfl) ?_
  repeat'
    first
      | refine Q_then ?_ | refine C_cond_t rfl ?_ | refine C_cond_f rfl ?_ | refine C_seq ?_ | refine C_block ?_ | refine C_skip ?_ | refine C_ret ?_ | refine C_exit ?_
      | refine Q_then_ret ?_ | refine Q_then_exit ?_ | refine Q_block ?_ | refine Q_block_ret ?_ | refine Q_block_here ?_ | refine Q_block_on rfl ?_ | refine C_scope ?_ | refine C_label ?_ | refine Q_asn ?_ | refine Q_then_pan ?_ | refine Q_block_pan ?_ | refine Q_scope (fun l h => by cases h) ?_
  (refine C_region ?_
   <;> (first | refine M_ptr rfl ?_ | refine W_move ?_)
   <;> refine W_makeFunc rfl rfl ?_
   <;> (first | refine M_ptr rfl ?_ | refine W_move ?_)
   <;> refine W_makeFunc rfl rfl ?_
   <;> (first | refine M_ptr rfl ?_ | refine W_move ?_)
   <;> refine W_makeFunc rfl rfl ?_
   <;> (first | refine M_ptr rfl ?_ | refine W_move ?_)
   <;> refine W_makeFunc rfl rfl ?_
   <;> (first | refine M_ptr rfl ?_ | refine W_move ?_)
   <;> refine W_makeFunc rfl rfl ?_
   <;> refine W_buildArr (by rfl) (by rfl) ?_)
  -- at operation 11: <dst=(some 2) op=(alloc 121) type=0 guard=none>
  refine W_alloc (fun w1 n1 => ?_)
  refine W_store_agg (cs := fnC s) rfl rfl rfl (by intro u hu; simp [fnC] at hu; rcases hu with rfl | rfl | rfl | rfl | rfl <;> rfl) n1.blk (by simp [fnC]) (fun w2 p2 => ?_)
  have hb2 : Blk w2 w.heap.size 121 (fnC s) := p2.blk
  have k2 : Ext w w2 := n1.keep.keep p2.keep (by simp)
  have hbs := hb.keep k2 (by simp)
  refine W_nil ?_
  repeat'
    first
      | refine Q_then ?_ | refine C_cond_t rfl ?_ | refine C_cond_f rfl ?_ | refine C_seq ?_ | refine C_block ?_ | refine C_skip ?_ | refine C_ret ?_ | refine C_exit ?_
      | refine Q_then_ret ?_ | refine Q_then_exit ?_ | refine Q_block ?_ | refine Q_block_ret ?_ | refine Q_block_here ?_ | refine Q_block_on rfl ?_ | refine C_scope ?_ | refine C_label ?_ | refine Q_asn ?_ | refine Q_then_pan ?_ | refine Q_block_pan ?_ | refine Q_scope (fun l h => by cases h) ?_
  have hG2 := hG.ext k2
  have hs0 : St w2 w2 s t 0 [] := ⟨Keep.refl _ _, by have := k2.size; omega, hl, by omega, by simp, _, hbs, ⟨rfl, .inl ⟨rfl, rfl⟩⟩⟩
  have hb2lt := hb2.lt
  -- what the whole scan answers, said of the world before the functions' table
  have hfin : ∀ w' a ts, St w2 w' s t a ts → St w w' s t a ts := fun w' a ts h => by
    obtain ⟨hk, hs, hl, ha, hn, tv, hb, ho⟩ := h
    exact ⟨k2.any.trans hk fun x hx _ => hx, hsz, hl, ha, hn, tv, hb, ownsRow_mono ho k2.size⟩
  have hpan : ∀ w', Keep [s] w2 w' → Keep [s] w w' := fun w' h => k2.any.trans h fun x hx _ => hx
  refine C_loop (α := Nat × Nat × List Tok) (fun _ => [(0, pt s), (2, pt w.heap.size)]) (fun x w1 => St w2 w1 s t x.2.1 x.2.2 ∧ t.length < x.1 + x.2.1 ∧ scanF t x.1 x.2.1 x.2.2 = scanR t) (fun x => x.1) (t.length + 1, 0, []) ⟨rfl, rfl, trivial⟩ ⟨hs0, by simp, rfl⟩ ?_
  rintro ⟨n, a, ts⟩ w3 f' ⟨hst, hn, hr⟩
  simp only at hst hn hr ⊢
  obtain ⟨n, rfl⟩ : ∃ m, n = m + 1 := ⟨n - 1, by have := hst.loc; omega⟩
  unfold scanF at hr
  repeat'
    first
      | refine Q_then ?_ | refine C_cond_t rfl ?_ | refine C_cond_f rfl ?_ | refine C_seq ?_ | refine C_block ?_ | refine C_skip ?_ | refine C_ret ?_ | refine C_exit ?_
      | refine Q_then_ret ?_ | refine Q_then_exit ?_ | refine Q_block ?_ | refine Q_block_ret ?_ | refine Q_block_here ?_ | refine Q_block_on rfl ?_ | refine C_scope ?_ | refine C_label ?_ | refine Q_asn ?_ | refine Q_then_pan ?_ | refine Q_block_pan ?_ | refine Q_scope (fun l h => by cases h) ?_
  refine C_drawN (.read 0 (.read 1 (.read 2 (.read 3 (.read 4 (.read 5 (.read 6 (.read 7 (.read 8 (.read 9 .done)))))))))) mixed (by kernel_rfl) (fun wd kd ed => ⟨fun W => W = wd, ?_, ?_⟩)
  · rfl
  obtain ⟨hk3, hs3, _, ha3, hn3, tv3, hb3, ho3⟩ := id hst
  have hbd := hb3.keep kd (by simp)
  by_cases hlt : a < t.length
  · rw [if_pos hlt] at hr
    ((apply D_R rfl rfl; (intro W hW; subst hW; (first | refine M_ptr rfl ?_ | refine W_move ?_); exact W_nil ⟨rfl, rfl, rfl⟩))
     <;> (apply D_R rfl rfl; (intro W hW; subst hW; refine W_nilCheck rfl ?_; exact W_nil ⟨rfl, rfl, rfl⟩))
     <;> (apply D_R rfl rfl; (intro W hW; subst hW; refine W_fieldAddr rfl ?_; exact W_nil ⟨rfl, rfl, rfl⟩))
     <;> (apply D_R rfl rfl; (intro W hW; subst hW; (first | refine W_load rfl (Blk.cell (by assumption) (by rfl)) ?_ | refine W_load rfl (by assumption) ?_); exact W_nil ⟨rfl, rfl, rfl⟩))
     <;> (apply D_R rfl rfl; (intro W hW; subst hW; (first | refine M_ptr rfl ?_ | refine W_move ?_); exact W_nil ⟨rfl, rfl, rfl⟩))
     <;> (apply D_R rfl rfl; (intro W hW; subst hW; refine W_nilCheck rfl ?_; exact W_nil ⟨rfl, rfl, rfl⟩))
     <;> (apply D_R rfl rfl; (intro W hW; subst hW; refine W_fieldAddr rfl ?_; exact W_nil ⟨rfl, rfl, rfl⟩))
     <;> (apply D_R rfl rfl; (intro W hW; subst hW; (first | refine W_load rfl (Blk.cell (by assumption) (by rfl)) ?_ | refine W_load rfl (by assumption) ?_); exact W_nil ⟨rfl, rfl, rfl⟩))
     <;> (apply D_R rfl rfl; (intro W hW; subst hW; refine W_slen rfl ?_; exact W_nil ⟨rfl, rfl, rfl⟩))
     <;> (refine D_lss rfl rfl rfl rfl (fun hc => ?_) (fun hc => ?_) <;> try (exfalso; omega))
     <;> refine D_nil ?_)
    have hstd := hst.ext kd
    have hc : t[a]? = some t[a] := List.getElem?_eq_getElem hlt
    generalize t[a] = c at hc
    have hGd : GV wd := hG2.keep hstd.keep (by simp; omega) (by simp; omega)
    have hb2d : Blk wd w.heap.size 121 (fnC s) := hb2.keep hstd.keep (by simp; omega)
    repeat'
      first
        | refine Q_then ?_ | refine C_cond_t rfl ?_ | refine C_cond_f rfl ?_ | refine C_seq ?_ | refine C_block ?_ | refine C_skip ?_ | refine C_ret ?_ | refine C_exit ?_
        | refine Q_then_ret ?_ | refine Q_then_exit ?_ | refine Q_block ?_ | refine Q_block_ret ?_ | refine Q_block_here ?_ | refine Q_block_on rfl ?_ | refine C_scope ?_ | refine C_label ?_ | refine Q_asn ?_ | refine Q_then_pan ?_ | refine Q_block_pan ?_ | refine Q_scope (fun l h => by cases h) ?_
    clear hbd
    refine C_drawN (.read 0 (.read 1 (.read 2 (.read 3 (.read 4 (.read 5 (.read 6 (.read 7 (.read 8 (.read 9 .done)))))))))) mixed (by kernel_rfl) (fun wd kd ed => ⟨fun W => W = wd, ?_, ?_⟩)
    · rfl
    have hbd := (hb3.keep (by assumption) (by simp)).keep kd (by simp)
    ((apply D_R rfl rfl; (intro W hW; subst hW; (first | refine M_ptr rfl ?_ | refine W_move ?_); exact W_nil ⟨rfl, rfl, rfl⟩))
     <;> (apply D_R rfl rfl; (intro W hW; subst hW; refine W_nilCheck rfl ?_; exact W_nil ⟨rfl, rfl, rfl⟩))
     <;> (apply D_R rfl rfl; (intro W hW; subst hW; refine W_fieldAddr rfl ?_; exact W_nil ⟨rfl, rfl, rfl⟩))
     <;> (apply D_R rfl rfl; (intro W hW; subst hW; (first | refine W_load rfl (Blk.cell (by assumption) (by rfl)) ?_ | refine W_load rfl (by assumption) ?_); exact W_nil ⟨rfl, rfl, rfl⟩))
     <;> (apply D_R rfl rfl; (intro W hW; subst hW; (first | refine M_ptr rfl ?_ | refine W_move ?_); exact W_nil ⟨rfl, rfl, rfl⟩))
     <;> (apply D_R rfl rfl; (intro W hW; subst hW; refine W_nilCheck rfl ?_; exact W_nil ⟨rfl, rfl, rfl⟩))
     <;> (apply D_R rfl rfl; (intro W hW; subst hW; refine W_fieldAddr rfl ?_; exact W_nil ⟨rfl, rfl, rfl⟩))
     <;> (apply D_R rfl rfl; (intro W hW; subst hW; (first | refine W_load rfl (Blk.cell (by assumption) (by rfl)) ?_ | refine W_load rfl (by assumption) ?_); exact W_nil ⟨rfl, rfl, rfl⟩))
     <;> (apply D_R rfl rfl; (intro W hW; subst hW; refine W_sidx rfl rfl (by assumption) ?_; exact W_nil ⟨rfl, rfl, rfl⟩))
     <;> (apply D_R rfl rfl; (intro W hW; subst hW; (refine M_assign ?_; (first | refine M_int rfl ?_ | refine W_move ?_)); exact W_nil ⟨rfl, rfl, rfl⟩))
     <;> refine D_nil ?_)
    have hst4 := hstd.ext kd
    have hG4 := hGd.ext kd
    have hb4 := hb2d.keep kd (by simp)
    clear hbd
    repeat'
      first
        | refine Q_then ?_ | refine C_cond_t rfl ?_ | refine C_cond_f rfl ?_ | refine C_seq ?_ | refine C_block ?_ | refine C_skip ?_ | refine C_ret ?_ | refine C_exit ?_
        | refine Q_then_ret ?_ | refine Q_then_exit ?_ | refine Q_block ?_ | refine Q_block_ret ?_ | refine Q_block_here ?_ | refine Q_block_on rfl ?_ | refine C_scope ?_ | refine C_label ?_ | refine Q_asn ?_ | refine Q_then_pan ?_ | refine Q_block_pan ?_ | refine Q_scope (fun l h => by cases h) ?_
    (refine C_region ?_; refine W_load_agg rfl rfl hG4.spans ?_; refine M_int rfl ?_; refine W_nil ?_)
    repeat'
      first
        | refine Q_then ?_ | refine C_cond_t rfl ?_ | refine C_cond_f rfl ?_ | refine C_seq ?_ | refine C_block ?_ | refine C_skip ?_ | refine C_ret ?_ | refine C_exit ?_
        | refine Q_then_ret ?_ | refine Q_then_exit ?_ | refine Q_block ?_ | refine Q_block_ret ?_ | refine Q_block_here ?_ | refine Q_block_on rfl ?_ | refine C_scope ?_ | refine C_label ?_ | refine Q_asn ?_ | refine Q_then_pan ?_ | refine Q_block_pan ?_ | refine Q_scope (fun l h => by cases h) ?_
    have hst5 : stepM t a ts = match (spansL.find? (inSpan c)).map (·.2.2) with | some 0 => blankM a ts | some 1 => commM t a ts | some 2 => nameM t a ts | some 3 => numM t a ts | some _ => symM t a ts | none => .error (40, a) := by
      unfold stepM; rw [getD_of hc]; rfl
    refine C_loop (α := Nat) (fun k => [(0, pt s), (2, pt w.heap.size), (3, enc8 c), (36, .agg spanC.toArray), (37, .int .i64 (k : Int))]) (fun k w5 => k ≤ 16 ∧ Ext wd w5 ∧ spansL.find? (inSpan c) = (spansL.drop k).find? (inSpan c)) (fun k => 16 - k) 0 ⟨rfl, rfl, rfl, rfl, rfl, trivial⟩ ⟨by omega, Ext.refl _, rfl⟩ ?_
    rintro k w5 f5 ⟨hk, hw5, hf⟩
    have h5 := hst4.ext hw5
    repeat'
      first
        | refine Q_then ?_ | refine C_cond_t rfl ?_ | refine C_cond_f rfl ?_ | refine C_seq ?_ | refine C_block ?_ | refine C_skip ?_ | refine C_ret ?_ | refine C_exit ?_
        | refine Q_then_ret ?_ | refine Q_then_exit ?_ | refine Q_block ?_ | refine Q_block_ret ?_ | refine Q_block_here ?_ | refine Q_block_on rfl ?_ | refine C_scope ?_ | refine C_label ?_ | refine Q_asn ?_ | refine Q_then_pan ?_ | refine Q_block_pan ?_ | refine Q_scope (fun l h => by cases h) ?_
    by_cases hlk : k < 16
    · have hp : spansL[k]? = some spansL[k] := List.getElem?_eq_getElem hlk
      generalize spansL[k] = p at hp
      rw [find_step hp] at hf
      have hpm : p.2.2 < 5 := by
        have : ∀ p ∈ spansL, p.2.2 < 5 := by decide
        exact this p (List.mem_of_getElem? hp)
      (refine C_region ?_
       <;> (refine W_lss rfl rfl (fun hc => ?_) (fun hc => ?_) <;> try (exfalso; omega))
       <;> refine W_nil ?_)
      repeat'
        first
          | refine Q_then ?_ | refine C_cond_t rfl ?_ | refine C_cond_f rfl ?_ | refine C_seq ?_ | refine C_block ?_ | refine C_skip ?_ | refine C_ret ?_ | refine C_exit ?_
          | refine Q_then_ret ?_ | refine Q_then_exit ?_ | refine Q_block ?_ | refine Q_block_ret ?_ | refine Q_block_here ?_ | refine Q_block_on rfl ?_ | refine C_scope ?_ | refine C_label ?_ | refine Q_asn ?_ | refine Q_then_pan ?_ | refine Q_block_pan ?_ | refine Q_scope (fun l h => by cases h) ?_
      (refine C_region ?_; refine W_vidx rfl rfl hlk (spanC_at _ _ _ hp) ?_; refine W_alloc (fun w6 n6 => ?_))
      refine W_store_agg (cs := spanC1 p) rfl rfl rfl (by intro u hu; simp [spanC1] at hu; rcases hu with rfl | rfl | rfl <;> rfl) n6.blk (by simp [spanC1]) (fun w7 p7 => ?_)
      have b7 : Blk w7 w5.heap.size 123 (spanC1 p) := p7.blk
      have k7 : Ext w5 w7 := n6.keep.keep p7.keep (by simp)
      have h7 := h5.ext k7
      refine W_nil ?_
      repeat'
        first
          | refine Q_then ?_ | refine C_cond_t rfl ?_ | refine C_cond_f rfl ?_ | refine C_seq ?_ | refine C_block ?_ | refine C_skip ?_ | refine C_ret ?_ | refine C_exit ?_
          | refine Q_then_ret ?_ | refine Q_then_exit ?_ | refine Q_block ?_ | refine Q_block_ret ?_ | refine Q_block_here ?_ | refine Q_block_on rfl ?_ | refine C_scope ?_ | refine C_label ?_ | refine Q_asn ?_ | refine Q_then_pan ?_ | refine Q_block_pan ?_ | refine Q_scope (fun l h => by cases h) ?_
      have hb7 : Blk w7 w.heap.size 121 (fnC s) := (hb4.keep hw5 (by simp)).keep k7 (by simp)
      obtain ⟨p1, p2, p3⟩ := p
      simp only at hpm
      replace b7 : Blk w7 w5.heap.size 123 [.int .u8 (p1 : Int), .int .u8 (p2 : Int), .int .i64 (p3 : Int)] := b7
      by_cases c1 : p1 ≤ c.toNat
      · by_cases c2 : c.toNat ≤ p2
        · rw [if_pos (by simp [inSpan, c1, c2])] at hf
          (refine C_region ?_
           <;> refine W_fieldAddr rfl ?_
           <;> (first | refine W_load rfl (Blk.cell (by assumption) (by rfl)) ?_ | refine W_load rfl (by assumption) ?_)
           <;> (first | refine M_int rfl ?_ | refine W_move ?_)
           <;> (refine W_leq rfl rfl (fun hc => ?_) (fun hc => ?_) <;> try (exfalso; omega))
           <;> (first | refine M_bool rfl ?_ | refine W_move ?_)
           <;> (first | refine W_no rfl ?_ | (refine W_yes rfl ?_; (first | refine M_int rfl ?_ | refine W_move ?_)))
           <;> (first | refine W_no rfl ?_ | (refine W_yes rfl ?_; refine W_fieldAddr rfl ?_))
           <;> (first | refine W_no rfl ?_ | (refine W_yes rfl ?_; (first | refine W_load rfl (Blk.cell (by assumption) (by rfl)) ?_ | refine W_load rfl (by assumption) ?_)))
           <;> (first | refine W_no rfl ?_ | (refine W_yes rfl ?_; (refine W_leq rfl rfl (fun hc => ?_) (fun hc => ?_) <;> try (exfalso; omega))))
           <;> ((first | refine M_pick_t rfl ?_ | refine M_pick_f rfl ?_); (first | refine M_bool rfl ?_ | refine W_move ?_))
           <;> refine W_nil ?_)
          repeat'
            first
              | refine Q_then ?_ | refine C_cond_t rfl ?_ | refine C_cond_f rfl ?_ | refine C_seq ?_ | refine C_block ?_ | refine C_skip ?_ | refine C_ret ?_ | refine C_exit ?_
              | refine Q_then_ret ?_ | refine Q_then_exit ?_ | refine Q_block ?_ | refine Q_block_ret ?_ | refine Q_block_here ?_ | refine Q_block_on rfl ?_ | refine C_scope ?_ | refine C_label ?_ | refine Q_asn ?_ | refine Q_then_pan ?_ | refine Q_block_pan ?_ | refine Q_scope (fun l h => by cases h) ?_
          obtain rfl | rfl | rfl | rfl | rfl : p3 = 0 ∨ p3 = 1 ∨ p3 = 2 ∨ p3 = 3 ∨ p3 = 4 := by omega
          · have e0 : stepM t a ts = blankM a ts := by rw [hst5, hf]; rfl
            (refine C_region ?_
             <;> refine W_fieldAddr rfl ?_
             <;> (first | refine W_load rfl (Blk.cell (by assumption) (by rfl)) ?_ | refine W_load rfl (by assumption) ?_)
             <;> refine W_indexArr rfl rfl (by omega) (by omega) ?_
             <;> (first | refine W_load rfl (Blk.cell (by assumption) (by rfl)) ?_ | refine W_load rfl (by assumption) ?_))
            -- at operation 4: <dst=(some 54) op=(call <callee=(value (tmp 53)) args=[] argTypes=[]>) type=0 guard=none>
            refine W_callvP (v1 := [pt s]) (v2 := []) (vs := []) rfl (blank_ok w2 _ s a t ts h7 hlt) rfl ?_ ?_
            · rintro v w8 ⟨rfl, a', ts', he, h8⟩
              have hee := e0.trans he
              rw [hee] at hr
              refine W_nil ?_
              repeat'
                first
                  | refine Q_then ?_ | refine C_cond_t rfl ?_ | refine C_cond_f rfl ?_ | refine C_seq ?_ | refine C_block ?_ | refine C_skip ?_ | refine C_ret ?_ | refine C_exit ?_
                  | refine Q_then_ret ?_ | refine Q_then_exit ?_ | refine Q_block ?_ | refine Q_block_ret ?_ | refine Q_block_here ?_ | refine Q_block_on rfl ?_ | refine C_scope ?_ | refine C_label ?_ | refine Q_asn ?_ | refine Q_then_pan ?_ | refine Q_block_pan ?_ | refine Q_scope (fun l h => by cases h) ?_
              exact ⟨(n, a', ts'), ⟨rfl, ⟨rfl, rfl, trivial⟩, ⟨h8, by have := step_on hlt hee; simp only; omega, hr⟩⟩, Nat.lt_succ_self _⟩
            · rintro ch w8 ⟨e, q, he, rfl, h8⟩
              have hee := e0.trans he
              rw [hee] at hr
              repeat'
                first
                  | refine Q_then ?_ | refine C_cond_t rfl ?_ | refine C_cond_f rfl ?_ | refine C_seq ?_ | refine C_block ?_ | refine C_skip ?_ | refine C_ret ?_ | refine C_exit ?_
                  | refine Q_then_ret ?_ | refine Q_then_exit ?_ | refine Q_block ?_ | refine Q_block_ret ?_ | refine Q_block_here ?_ | refine Q_block_on rfl ?_ | refine C_scope ?_ | refine C_label ?_ | refine Q_asn ?_ | refine Q_then_pan ?_ | refine Q_block_pan ?_ | refine Q_scope (fun l h => by cases h) ?_
              exact fin_pan ⟨e, q, hr.symm, rfl, hpan _ h8⟩
          · have e0 : stepM t a ts = commM t a ts := by rw [hst5, hf]; rfl
            (refine C_region ?_
             <;> refine W_fieldAddr rfl ?_
             <;> (first | refine W_load rfl (Blk.cell (by assumption) (by rfl)) ?_ | refine W_load rfl (by assumption) ?_)
             <;> refine W_indexArr rfl rfl (by omega) (by omega) ?_
             <;> (first | refine W_load rfl (Blk.cell (by assumption) (by rfl)) ?_ | refine W_load rfl (by assumption) ?_))
            -- at operation 4: <dst=(some 54) op=(call <callee=(value (tmp 53)) args=[] argTypes=[]>) type=0 guard=none>
            refine W_callvP (v1 := [pt s]) (v2 := []) (vs := []) rfl (comment_ok w2 _ s a t ts h7) rfl ?_ ?_
            · rintro v w8 ⟨rfl, a', ts', he, h8⟩
              have hee := e0.trans he
              rw [hee] at hr
              refine W_nil ?_
              repeat'
                first
                  | refine Q_then ?_ | refine C_cond_t rfl ?_ | refine C_cond_f rfl ?_ | refine C_seq ?_ | refine C_block ?_ | refine C_skip ?_ | refine C_ret ?_ | refine C_exit ?_
                  | refine Q_then_ret ?_ | refine Q_then_exit ?_ | refine Q_block ?_ | refine Q_block_ret ?_ | refine Q_block_here ?_ | refine Q_block_on rfl ?_ | refine C_scope ?_ | refine C_label ?_ | refine Q_asn ?_ | refine Q_then_pan ?_ | refine Q_block_pan ?_ | refine Q_scope (fun l h => by cases h) ?_
              exact ⟨(n, a', ts'), ⟨rfl, ⟨rfl, rfl, trivial⟩, ⟨h8, by have := step_on hlt hee; simp only; omega, hr⟩⟩, Nat.lt_succ_self _⟩
            · rintro ch w8 ⟨e, q, he, rfl, h8⟩
              have hee := e0.trans he
              rw [hee] at hr
              repeat'
                first
                  | refine Q_then ?_ | refine C_cond_t rfl ?_ | refine C_cond_f rfl ?_ | refine C_seq ?_ | refine C_block ?_ | refine C_skip ?_ | refine C_ret ?_ | refine C_exit ?_
                  | refine Q_then_ret ?_ | refine Q_then_exit ?_ | refine Q_block ?_ | refine Q_block_ret ?_ | refine Q_block_here ?_ | refine Q_block_on rfl ?_ | refine C_scope ?_ | refine C_label ?_ | refine Q_asn ?_ | refine Q_then_pan ?_ | refine Q_block_pan ?_ | refine Q_scope (fun l h => by cases h) ?_
              exact fin_pan ⟨e, q, hr.symm, rfl, hpan _ h8⟩
          · have e0 : stepM t a ts = nameM t a ts := by rw [hst5, hf]; rfl
            (refine C_region ?_
             <;> refine W_fieldAddr rfl ?_
             <;> (first | refine W_load rfl (Blk.cell (by assumption) (by rfl)) ?_ | refine W_load rfl (by assumption) ?_)
             <;> refine W_indexArr rfl rfl (by omega) (by omega) ?_
             <;> (first | refine W_load rfl (Blk.cell (by assumption) (by rfl)) ?_ | refine W_load rfl (by assumption) ?_))
            -- at operation 4: <dst=(some 54) op=(call <callee=(value (tmp 53)) args=[] argTypes=[]>) type=0 guard=none>
            refine W_callvP (v1 := [pt s]) (v2 := []) (vs := []) rfl (scanName_ok w2 _ s a t ts h7 hlt) rfl ?_ ?_
            · rintro v w8 ⟨rfl, a', ts', he, h8⟩
              have hee := e0.trans he
              rw [hee] at hr
              refine W_nil ?_
              repeat'
                first
                  | refine Q_then ?_ | refine C_cond_t rfl ?_ | refine C_cond_f rfl ?_ | refine C_seq ?_ | refine C_block ?_ | refine C_skip ?_ | refine C_ret ?_ | refine C_exit ?_
                  | refine Q_then_ret ?_ | refine Q_then_exit ?_ | refine Q_block ?_ | refine Q_block_ret ?_ | refine Q_block_here ?_ | refine Q_block_on rfl ?_ | refine C_scope ?_ | refine C_label ?_ | refine Q_asn ?_ | refine Q_then_pan ?_ | refine Q_block_pan ?_ | refine Q_scope (fun l h => by cases h) ?_
              exact ⟨(n, a', ts'), ⟨rfl, ⟨rfl, rfl, trivial⟩, ⟨h8, by have := step_on hlt hee; simp only; omega, hr⟩⟩, Nat.lt_succ_self _⟩
            · rintro ch w8 ⟨e, q, he, rfl, h8⟩
              have hee := e0.trans he
              rw [hee] at hr
              repeat'
                first
                  | refine Q_then ?_ | refine C_cond_t rfl ?_ | refine C_cond_f rfl ?_ | refine C_seq ?_ | refine C_block ?_ | refine C_skip ?_ | refine C_ret ?_ | refine C_exit ?_
                  | refine Q_then_ret ?_ | refine Q_then_exit ?_ | refine Q_block ?_ | refine Q_block_ret ?_ | refine Q_block_here ?_ | refine Q_block_on rfl ?_ | refine C_scope ?_ | refine C_label ?_ | refine Q_asn ?_ | refine Q_then_pan ?_ | refine Q_block_pan ?_ | refine Q_scope (fun l h => by cases h) ?_
              exact fin_pan ⟨e, q, hr.symm, rfl, hpan _ h8⟩
          · have e0 : stepM t a ts = numM t a ts := by rw [hst5, hf]; rfl
            (refine C_region ?_
             <;> refine W_fieldAddr rfl ?_
             <;> (first | refine W_load rfl (Blk.cell (by assumption) (by rfl)) ?_ | refine W_load rfl (by assumption) ?_)
             <;> refine W_indexArr rfl rfl (by omega) (by omega) ?_
             <;> (first | refine W_load rfl (Blk.cell (by assumption) (by rfl)) ?_ | refine W_load rfl (by assumption) ?_))
            -- at operation 4: <dst=(some 54) op=(call <callee=(value (tmp 53)) args=[] argTypes=[]>) type=0 guard=none>
            refine W_callvP (v1 := [pt s]) (v2 := []) (vs := []) rfl (scanNumber_ok w2 _ s a t ts h7 hlt) rfl ?_ ?_
            · rintro v w8 ⟨rfl, a', ts', he, h8⟩
              have hee := e0.trans he
              rw [hee] at hr
              refine W_nil ?_
              repeat'
                first
                  | refine Q_then ?_ | refine C_cond_t rfl ?_ | refine C_cond_f rfl ?_ | refine C_seq ?_ | refine C_block ?_ | refine C_skip ?_ | refine C_ret ?_ | refine C_exit ?_
                  | refine Q_then_ret ?_ | refine Q_then_exit ?_ | refine Q_block ?_ | refine Q_block_ret ?_ | refine Q_block_here ?_ | refine Q_block_on rfl ?_ | refine C_scope ?_ | refine C_label ?_ | refine Q_asn ?_ | refine Q_then_pan ?_ | refine Q_block_pan ?_ | refine Q_scope (fun l h => by cases h) ?_
              exact ⟨(n, a', ts'), ⟨rfl, ⟨rfl, rfl, trivial⟩, ⟨h8, by have := step_on hlt hee; simp only; omega, hr⟩⟩, Nat.lt_succ_self _⟩
            · rintro ch w8 ⟨e, q, he, rfl, h8⟩
              have hee := e0.trans he
              rw [hee] at hr
              repeat'
                first
                  | refine Q_then ?_ | refine C_cond_t rfl ?_ | refine C_cond_f rfl ?_ | refine C_seq ?_ | refine C_block ?_ | refine C_skip ?_ | refine C_ret ?_ | refine C_exit ?_
                  | refine Q_then_ret ?_ | refine Q_then_exit ?_ | refine Q_block ?_ | refine Q_block_ret ?_ | refine Q_block_here ?_ | refine Q_block_on rfl ?_ | refine C_scope ?_ | refine C_label ?_ | refine Q_asn ?_ | refine Q_then_pan ?_ | refine Q_block_pan ?_ | refine Q_scope (fun l h => by cases h) ?_
              exact fin_pan ⟨e, q, hr.symm, rfl, hpan _ h8⟩
          · have e0 : stepM t a ts = symM t a ts := by rw [hst5, hf]; rfl
            (refine C_region ?_
             <;> refine W_fieldAddr rfl ?_
             <;> (first | refine W_load rfl (Blk.cell (by assumption) (by rfl)) ?_ | refine W_load rfl (by assumption) ?_)
             <;> refine W_indexArr rfl rfl (by omega) (by omega) ?_
             <;> (first | refine W_load rfl (Blk.cell (by assumption) (by rfl)) ?_ | refine W_load rfl (by assumption) ?_))
            -- at operation 4: <dst=(some 54) op=(call <callee=(value (tmp 53)) args=[] argTypes=[]>) type=0 guard=none>
            refine W_callvP (v1 := [pt s]) (v2 := []) (vs := []) rfl (symbol_ok w2 _ s a t ts h7 hlt hG2 hs2) rfl ?_ ?_
            · rintro v w8 ⟨rfl, a', ts', he, h8⟩
              have hee := e0.trans he
              rw [hee] at hr
              refine W_nil ?_
              repeat'
                first
                  | refine Q_then ?_ | refine C_cond_t rfl ?_ | refine C_cond_f rfl ?_ | refine C_seq ?_ | refine C_block ?_ | refine C_skip ?_ | refine C_ret ?_ | refine C_exit ?_
                  | refine Q_then_ret ?_ | refine Q_then_exit ?_ | refine Q_block ?_ | refine Q_block_ret ?_ | refine Q_block_here ?_ | refine Q_block_on rfl ?_ | refine C_scope ?_ | refine C_label ?_ | refine Q_asn ?_ | refine Q_then_pan ?_ | refine Q_block_pan ?_ | refine Q_scope (fun l h => by cases h) ?_
              exact ⟨(n, a', ts'), ⟨rfl, ⟨rfl, rfl, trivial⟩, ⟨h8, by have := step_on hlt hee; simp only; omega, hr⟩⟩, Nat.lt_succ_self _⟩
            · rintro ch w8 ⟨e, q, he, rfl, h8⟩
              have hee := e0.trans he
              rw [hee] at hr
              repeat'
                first
                  | refine Q_then ?_ | refine C_cond_t rfl ?_ | refine C_cond_f rfl ?_ | refine C_seq ?_ | refine C_block ?_ | refine C_skip ?_ | refine C_ret ?_ | refine C_exit ?_
                  | refine Q_then_ret ?_ | refine Q_then_exit ?_ | refine Q_block ?_ | refine Q_block_ret ?_ | refine Q_block_here ?_ | refine Q_block_on rfl ?_ | refine C_scope ?_ | refine C_label ?_ | refine Q_asn ?_ | refine Q_then_pan ?_ | refine Q_block_pan ?_ | refine Q_scope (fun l h => by cases h) ?_
              exact fin_pan ⟨e, q, hr.symm, rfl, hpan _ h8⟩
        · rw [if_neg (by simp [inSpan, c2])] at hf
          (refine C_region ?_
           <;> refine W_fieldAddr rfl ?_
           <;> (first | refine W_load rfl (Blk.cell (by assumption) (by rfl)) ?_ | refine W_load rfl (by assumption) ?_)
           <;> (first | refine M_int rfl ?_ | refine W_move ?_)
           <;> (refine W_leq rfl rfl (fun hc => ?_) (fun hc => ?_) <;> try (exfalso; omega))
           <;> (first | refine M_bool rfl ?_ | refine W_move ?_)
           <;> (first | refine W_no rfl ?_ | (refine W_yes rfl ?_; (first | refine M_int rfl ?_ | refine W_move ?_)))
           <;> (first | refine W_no rfl ?_ | (refine W_yes rfl ?_; refine W_fieldAddr rfl ?_))
           <;> (first | refine W_no rfl ?_ | (refine W_yes rfl ?_; (first | refine W_load rfl (Blk.cell (by assumption) (by rfl)) ?_ | refine W_load rfl (by assumption) ?_)))
           <;> (first | refine W_no rfl ?_ | (refine W_yes rfl ?_; (refine W_leq rfl rfl (fun hc => ?_) (fun hc => ?_) <;> try (exfalso; omega))))
           <;> ((first | refine M_pick_t rfl ?_ | refine M_pick_f rfl ?_); (first | refine M_bool rfl ?_ | refine W_move ?_))
           <;> refine W_nil ?_)
          repeat'
            first
              | refine Q_then ?_ | refine C_cond_t rfl ?_ | refine C_cond_f rfl ?_ | refine C_seq ?_ | refine C_block ?_ | refine C_skip ?_ | refine C_ret ?_ | refine C_exit ?_
              | refine Q_then_ret ?_ | refine Q_then_exit ?_ | refine Q_block ?_ | refine Q_block_ret ?_ | refine Q_block_here ?_ | refine Q_block_on rfl ?_ | refine C_scope ?_ | refine C_label ?_ | refine Q_asn ?_ | refine Q_then_pan ?_ | refine Q_block_pan ?_ | refine Q_scope (fun l h => by cases h) ?_
          (refine C_region ?_
           <;> refine W_add rfl rfl (by first | exact inR_i64 (by omega) (by omega) | exact inR_u8 (by omega) (by omega) | exact inR_u16 (by omega) (by omega)) ?_
           <;> (first | refine M_int rfl ?_ | refine W_move ?_)
           <;> refine W_nil ?_)
          repeat'
            first
              | refine Q_then ?_ | refine C_cond_t rfl ?_ | refine C_cond_f rfl ?_ | refine C_seq ?_ | refine C_block ?_ | refine C_skip ?_ | refine C_ret ?_ | refine C_exit ?_
              | refine Q_then_ret ?_ | refine Q_then_exit ?_ | refine Q_block ?_ | refine Q_block_ret ?_ | refine Q_block_here ?_ | refine Q_block_on rfl ?_ | refine C_scope ?_ | refine C_label ?_ | refine Q_asn ?_ | refine Q_then_pan ?_ | refine Q_block_pan ?_ | refine Q_scope (fun l h => by cases h) ?_
          refine ⟨k + 1, ⟨rfl, ⟨rfl, rfl, rfl, rfl, ?_, trivial⟩, ⟨by omega, hw5.trans k7, hf⟩⟩, by omega⟩
          show Value.int .i64 ((k : Int) + 1) = _
          rw [Int.natCast_add]; rfl
      · rw [if_neg (by simp [inSpan, c1])] at hf
        (refine C_region ?_
         <;> refine W_fieldAddr rfl ?_
         <;> (first | refine W_load rfl (Blk.cell (by assumption) (by rfl)) ?_ | refine W_load rfl (by assumption) ?_)
         <;> (first | refine M_int rfl ?_ | refine W_move ?_)
         <;> (refine W_leq rfl rfl (fun hc => ?_) (fun hc => ?_) <;> try (exfalso; omega))
         <;> (first | refine M_bool rfl ?_ | refine W_move ?_)
         <;> (first | refine W_no rfl ?_ | (refine W_yes rfl ?_; (first | refine M_int rfl ?_ | refine W_move ?_)))
         <;> (first | refine W_no rfl ?_ | (refine W_yes rfl ?_; refine W_fieldAddr rfl ?_))
         <;> (first | refine W_no rfl ?_ | (refine W_yes rfl ?_; (first | refine W_load rfl (Blk.cell (by assumption) (by rfl)) ?_ | refine W_load rfl (by assumption) ?_)))
         <;> (first | refine W_no rfl ?_ | (refine W_yes rfl ?_; (refine W_leq rfl rfl (fun hc => ?_) (fun hc => ?_) <;> try (exfalso; omega))))
         <;> ((first | refine M_pick_t rfl ?_ | refine M_pick_f rfl ?_); (first | refine M_bool rfl ?_ | refine W_move ?_))
         <;> refine W_nil ?_)
        repeat'
          first
            | refine Q_then ?_ | refine C_cond_t rfl ?_ | refine C_cond_f rfl ?_ | refine C_seq ?_ | refine C_block ?_ | refine C_skip ?_ | refine C_ret ?_ | refine C_exit ?_
            | refine Q_then_ret ?_ | refine Q_then_exit ?_ | refine Q_block ?_ | refine Q_block_ret ?_ | refine Q_block_here ?_ | refine Q_block_on rfl ?_ | refine C_scope ?_ | refine C_label ?_ | refine Q_asn ?_ | refine Q_then_pan ?_ | refine Q_block_pan ?_ | refine Q_scope (fun l h => by cases h) ?_
        (refine C_region ?_
         <;> refine W_add rfl rfl (by first | exact inR_i64 (by omega) (by omega) | exact inR_u8 (by omega) (by omega) | exact inR_u16 (by omega) (by omega)) ?_
         <;> (first | refine M_int rfl ?_ | refine W_move ?_)
         <;> refine W_nil ?_)
        repeat'
          first
            | refine Q_then ?_ | refine C_cond_t rfl ?_ | refine C_cond_f rfl ?_ | refine C_seq ?_ | refine C_block ?_ | refine C_skip ?_ | refine C_ret ?_ | refine C_exit ?_
            | refine Q_then_ret ?_ | refine Q_then_exit ?_ | refine Q_block ?_ | refine Q_block_ret ?_ | refine Q_block_here ?_ | refine Q_block_on rfl ?_ | refine C_scope ?_ | refine C_label ?_ | refine Q_asn ?_ | refine Q_then_pan ?_ | refine Q_block_pan ?_ | refine Q_scope (fun l h => by cases h) ?_
        refine ⟨k + 1, ⟨rfl, ⟨rfl, rfl, rfl, rfl, ?_, trivial⟩, ⟨by omega, hw5.trans k7, hf⟩⟩, by omega⟩
        show Value.int .i64 ((k : Int) + 1) = _
        rw [Int.natCast_add]; rfl
    · obtain ⟨hk6, hs6, _, ha6, hn6, tv6, hb6, ho6⟩ := id h5
      (refine C_region ?_
       <;> (refine W_lss rfl rfl (fun hc => ?_) (fun hc => ?_) <;> try (exfalso; omega))
       <;> refine W_nil ?_)
      repeat'
        first
          | refine Q_then ?_ | refine C_cond_t rfl ?_ | refine C_cond_f rfl ?_ | refine C_seq ?_ | refine C_block ?_ | refine C_skip ?_ | refine C_ret ?_ | refine C_exit ?_
          | refine Q_then_ret ?_ | refine Q_then_exit ?_ | refine Q_block ?_ | refine Q_block_ret ?_ | refine Q_block_here ?_ | refine Q_block_on rfl ?_ | refine C_scope ?_ | refine C_label ?_ | refine Q_asn ?_ | refine Q_then_pan ?_ | refine Q_block_pan ?_ | refine Q_scope (fun l h => by cases h) ?_
      (refine C_region ?_
       <;> (first | refine M_ptr rfl ?_ | refine W_move ?_)
       <;> refine W_nilCheck rfl ?_
       <;> refine W_fieldAddr rfl ?_
       <;> (first | refine W_load rfl (Blk.cell (by assumption) (by rfl)) ?_ | refine W_load rfl (by assumption) ?_)
       <;> refine W_build (by rfl) (by rfl) ?_
       <;> refine W_iface ?_
       <;> refine W_panic rfl ?_)
      repeat'
        first
          | refine Q_then ?_ | refine C_cond_t rfl ?_ | refine C_cond_f rfl ?_ | refine C_seq ?_ | refine C_block ?_ | refine C_skip ?_ | refine C_ret ?_ | refine C_exit ?_
          | refine Q_then_ret ?_ | refine Q_then_exit ?_ | refine Q_block ?_ | refine Q_block_ret ?_ | refine Q_block_here ?_ | refine Q_block_on rfl ?_ | refine C_scope ?_ | refine C_label ?_ | refine Q_asn ?_ | refine Q_then_pan ?_ | refine Q_block_pan ?_ | refine Q_scope (fun l h => by cases h) ?_
      have hd : spansL.drop k = [] := List.drop_eq_nil_of_le (by show 16 ≤ k; omega)
      rw [hd] at hf
      rw [hst5, hf] at hr
      exact fin_pan ⟨_, _, hr.symm, rfl, hpan _ hk6⟩
  · rw [if_neg hlt] at hr
    ((apply D_R rfl rfl; (intro W hW; subst hW; (first | refine M_ptr rfl ?_ | refine W_move ?_); exact W_nil ⟨rfl, rfl, rfl⟩))
     <;> (apply D_R rfl rfl; (intro W hW; subst hW; refine W_nilCheck rfl ?_; exact W_nil ⟨rfl, rfl, rfl⟩))
     <;> (apply D_R rfl rfl; (intro W hW; subst hW; refine W_fieldAddr rfl ?_; exact W_nil ⟨rfl, rfl, rfl⟩))
     <;> (apply D_R rfl rfl; (intro W hW; subst hW; (first | refine W_load rfl (Blk.cell (by assumption) (by rfl)) ?_ | refine W_load rfl (by assumption) ?_); exact W_nil ⟨rfl, rfl, rfl⟩))
     <;> (apply D_R rfl rfl; (intro W hW; subst hW; (first | refine M_ptr rfl ?_ | refine W_move ?_); exact W_nil ⟨rfl, rfl, rfl⟩))
     <;> (apply D_R rfl rfl; (intro W hW; subst hW; refine W_nilCheck rfl ?_; exact W_nil ⟨rfl, rfl, rfl⟩))
     <;> (apply D_R rfl rfl; (intro W hW; subst hW; refine W_fieldAddr rfl ?_; exact W_nil ⟨rfl, rfl, rfl⟩))
     <;> (apply D_R rfl rfl; (intro W hW; subst hW; (first | refine W_load rfl (Blk.cell (by assumption) (by rfl)) ?_ | refine W_load rfl (by assumption) ?_); exact W_nil ⟨rfl, rfl, rfl⟩))
     <;> (apply D_R rfl rfl; (intro W hW; subst hW; refine W_slen rfl ?_; exact W_nil ⟨rfl, rfl, rfl⟩))
     <;> (refine D_lss rfl rfl rfl rfl (fun hc => ?_) (fun hc => ?_) <;> try (exfalso; omega))
     <;> refine D_nil ?_)
    repeat'
      first
        | refine Q_then ?_ | refine C_cond_t rfl ?_ | refine C_cond_f rfl ?_ | refine C_seq ?_ | refine C_block ?_ | refine C_skip ?_ | refine C_ret ?_ | refine C_exit ?_
        | refine Q_then_ret ?_ | refine Q_then_exit ?_ | refine Q_block ?_ | refine Q_block_ret ?_ | refine Q_block_here ?_ | refine Q_block_on rfl ?_ | refine C_scope ?_ | refine C_label ?_ | refine Q_asn ?_ | refine Q_then_pan ?_ | refine Q_block_pan ?_ | refine Q_scope (fun l h => by cases h) ?_
    exact fin_end0 rfl ⟨rfl, _, _, hr.symm, hfin _ _ _ (hst.ext kd)⟩
end Go.Proofs.YtmnhnbpnjepkbaaGreatDoor

namespace Go.Proofs.YtmnhnbpnjepkbaaGreatDoor
open Go.RowKit
attribute [local semireducible] WC WOps thenQ blockQ scopeQ finQ finD stepP

section
variable {P : Program} {all : Array Oper} {Z : Fr → DS → List PanicEntry → World → Prop} {K : Fr → DS → World → Prop} {rest : List Oper} {f : Fr} {ds : DS} {w : World}
  {d : Nat} {ty : TypeId} {pos : String} {af : Array Edge}

theorem W_defer {g : FuncId} {t : Nat} {xs : List Operand} {ats : Array TypeId} {vs v1 v2 : List Value} (hf : f t = .func (.func g) v1.toArray v2.toArray) (ha : evL f xs = vs)
    (h : WOps P all Z K rest f ({ target := .fn (.func g) v2.toArray, args := (v1 ++ vs).toArray } :: ds) w) : WOps P all Z K (⟨none, .defer ⟨.value (.tmp t), xs.toArray, ats⟩, ty, pos, af, none⟩ :: rest) f ds w := by
  have hr : (execOp (ev f) ⟨none, .defer ⟨.value (.tmp t), xs.toArray, ats⟩, ty, pos, af, none⟩).run P w = .ok (.defer { target := .fn (.func g) v2.toArray, args := (v1 ++ vs).toArray }) w := by
    rw [evL_map] at ha
    simp only [execOp, resolve, ev, hf, Deferred.ofValue, Sem.run_bind, Sem.run_pure, Result.andThen_ok]
    simp [← ha]
  unfold WOps
  simp only [wantedF, if_true, stepP, hr]
  exact h

theorem W_assert_yes {x : Operand} {xt T : TypeId} {v : Value} [hT : ConcT P T] (hx : ev f x = .iface T v) (h : WOps P all Z K rest (upd f d (.tuple #[v, .bool true])) ds w) :
    WOps P all Z K (⟨some d, .typeAssert x xt T true, ty, pos, af, none⟩ :: rest) f ds w := by
  obtain ⟨dd, h1, h2⟩ := hT.out
  refine W_val rfl ?_ h
  simp only [execOp, hx, Instr.typeAssert, Sem.run_bind, run_underlying h1, Result.andThen_ok]
  cases dd <;> simp_all
theorem W_assert_nil {x : Operand} {xt T : TypeId} {z : Value} [hT : ConcT P T] (hx : ev f x = .nilIface) (hz : (P.info? T).map (·.zero) = some (some z)) (h : WOps P all Z K rest (upd f d (.tuple #[z, .bool false])) ds w) :
    WOps P all Z K (⟨some d, .typeAssert x xt T true, ty, pos, af, none⟩ :: rest) f ds w := by
  obtain ⟨dd, h1, h2⟩ := hT.out
  obtain ⟨i, hi, hs⟩ := Option.map_eq_some_iff.1 hz
  refine W_val rfl ?_ h
  simp only [execOp, hx, Instr.typeAssert, Sem.run_bind, run_underlying h1, Result.andThen_ok]
  cases dd <;> simp_all [zeroValue, typeInfo]
end

/-! ### Operations that call nothing -/
def plainOp : Op → Bool
  | .move _ | .assign _ | .alloc _ | .store _ _ _ | .load _ _ | .extract _ _ | .typeAssert _ _ _ _ | .fieldAddr _ _ _ => true
  | _ => false
theorem run_v {P : Program} {w : World} (s : Sem Value) : (∃ v w', (do pure (Next.value (← s)) : Sem Next).run P w = .ok (.value v) w') ∨ ∃ x w', (do pure (Next.value (← s)) : Sem Next).run P w = .halt x w' := by
  simp only [Sem.run_bind]
  cases s.run P w with
  | ok v w' => exact .inl ⟨v, w', rfl⟩
  | halt x w' => exact .inr ⟨x, w', rfl⟩
theorem plain_cases {P : Program} {w : World} {ρ : Operand → Value} {o : Oper} (h : plainOp o.op = true) :
    (∃ v w', (execOp ρ o).run P w = .ok (.value v) w') ∨ (∃ w', (execOp ρ o).run P w = .ok .skip w') ∨ ∃ x w', (execOp ρ o).run P w = .halt x w' := by
  obtain ⟨dst, op, ty, pos, af, g⟩ := o
  cases op <;> simp only [plainOp] at h <;> try (cases h; done)
  case store t a x =>
    simp only [execOp, Sem.run_bind]
    cases (Instr.storeAt t (ρ a) (ρ x)).run P w with
    | ok v w' => exact .inr (.inl ⟨w', rfl⟩)
    | halt x w' => exact .inr (.inr ⟨x, w', rfl⟩)
  case move => exact .inl ⟨_, _, rfl⟩
  case assign => exact .inl ⟨_, _, rfl⟩
  all_goals
    simp only [execOp]
    rcases run_v (P := P) (w := w) _ with ⟨v, w', h⟩ | ⟨x, w', h⟩
    · exact .inl ⟨v, w', h⟩
    · exact .inr (.inr ⟨x, w', h⟩)

theorem S_of_WOps {P : Program} {ops : Array Oper} {F : Fence} {n N : Nat} {Q : Exit → Act → List Frame → World → Prop} {cs : List Frame} {K : Fr → DS → World → Prop} (hF : ∀ g, F.fn g)
    (hK : ∀ a' w', a'.tmps.size = N → K (toFr a') a'.defers w' → Q .normal a' cs w') : ∀ (l : List Nat) (os : List Oper) (a : Act) (w : World), l.map (fun i => ops[i]?) = os.map some → (os.all fun o => plainOp o.op && dOk N o.dst) = true →
      a.tmps.size = N → WOps P ops (fun _ _ _ _ => False) K os (toFr a) a.defers w → wpOpsSIn F n P ops Q l a cs w
  | [], [], a, w, _, _, hn, h => hK a w hn h
  | [], _ :: _, _, _, h, _, _, _ => by simp at h
  | _ :: _, [], _, _, h, _, _, _ => by simp at h
  | i :: l, o :: os, a, w, hl, hp, hn, h => by
    simp only [List.map_cons, List.cons.injEq] at hl
    simp only [List.all_cons, Bool.and_eq_true] at hp
    obtain ⟨⟨hpo, hdo⟩, hp⟩ := hp
    unfold wpOpsSIn
    simp only [hl.1]
    refine ⟨fun g _ => hF g, ?_⟩
    have put : ∀ v, toFr (a.put o.dst v) = putF (toFr a) o.dst v := fun v => toFr_putF v (by rw [hn]; exact hdo)
    have go : ∀ v w', WOps P ops (fun _ _ _ _ => False) K os (putF (toFr a) o.dst v) a.defers w' → wpOpsSIn F n P ops Q l (a.put o.dst v) cs w' := fun v w' h' =>
      S_of_WOps hF hK l os (a.put o.dst v) w' hl.2 hp (by rw [size_put]; exact hn) (by rw [put, defers_put]; exact h')
    unfold WOps at h
    rw [wanted_toFr]
    by_cases hw : wantedF ops (toFr a) o.guard = true
    · rw [if_pos hw] at h ⊢
      unfold stepP at h
      rw [ev_toFr]
      rcases plain_cases (P := P) (w := w) (ρ := ev (toFr a)) hpo with ⟨v, w', hr⟩ | ⟨w', hr⟩ | ⟨x, w', hr⟩
      · rw [hr] at h ⊢; exact go _ _ h
      · rw [hr] at h ⊢; exact go _ _ h
      · rw [hr] at h
        cases x <;> exact h.elim
    · rw [if_neg hw] at h ⊢
      exact go _ _ h

/-- a deferred call that first of all recovers -/
theorem callsD_rec {P : Program} {g : FuncId} {fn : Func} {id d N : Nat} {ats : Array TypeId} {ty : TypeId} {pos : String} {af : Array Edge} {os : List Oper} {y : Code} {args : List Value} {w : World} {u u1 : FrameMode} {v0 : Value} {G : Value → World → Prop}
    (hf : P.funcs[g]? = some fn) (hb : fn.body = some (.seq (.region id (⟨some d, .call ⟨.builtin .recover, #[], ats⟩, ty, pos, af, none⟩ :: os).toArray false) y)) (hn : fn.ntmps = N) (hl : args.length ≤ N) (hd : d < N)
    (hos : (os.all fun o => plainOp o.op && dOk N o.dst) = true) (hy : codeOk N false y = true)
    (hu : (u = .returning ∧ u1 = .returning ∧ v0 = .nilIface) ∨ ∃ p, u = .panicking [{ v := p, recovered := false }] ∧ u1 = .panicking [{ v := p, recovered := true }] ∧ v0 = p)
    (h : WOps P (⟨some d, .call ⟨.builtin .recover, #[], ats⟩, ty, pos, af, none⟩ :: os).toArray (fun _ _ _ _ => False) (WC P ⟨N, none⟩ y (finQ P fn G fun _ _ => False)) os (upd (argF args) d v0) [] w) :
    CallsDIn Fence.wide 0 P g args.toArray u w (fun e u' w' => match e with | .returned v => u' = u1 ∧ G v w' | _ => False) := by
  have hs : (args.toArray ++ Array.replicate (fn.ntmps - args.toArray.size) undef).size = N := by simp [hn]; omega
  refine callsDIn_of_wpSIn hf hb trivial fun c₀ cs hc => ?_
  refine wpSIn_seq (wpSIn_region ?_)
  have hrange : List.range (⟨some d, .call ⟨.builtin .recover, #[], ats⟩, ty, pos, af, none⟩ :: os : List Oper).toArray.size = 0 :: (List.range os.length).map (· + 1) := by
    rw [List.size_toArray, List.length_cons, List.range_succ_eq_map]
  rw [hrange]
  unfold wpOpsSIn
  simp only [List.getElem?_toArray, List.getElem?_cons_zero]
  refine ⟨fun _ _ => trivial, ?_⟩
  simp only [Region.wanted, if_true]
  have hr : ∀ ρ : Operand → Value, (execOp ρ ⟨some d, .call ⟨.builtin .recover, #[], ats⟩, ty, pos, af, none⟩).run P w = .ok .recover w := fun ρ => by
    simp [execOp, resolve, invoke, builtin]
  rw [hr]
  have key : ∀ c₁ : Frame, c₁ = { c₀ with mode := u1 } → wpOpsSIn Fence.wide 0 P (⟨some d, .call ⟨.builtin .recover, #[], ats⟩, ty, pos, af, none⟩ :: os : List Oper).toArray
      (Exit.thenS (y.wpSIn Fence.wide 0 P (bodyPostS P fn c₀ cs fun e u' w' => match e with | .returned v => u' = u1 ∧ G v w' | _ => False)) (bodyPostS P fn c₀ cs fun e u' w' => match e with | .returned v => u' = u1 ∧ G v w' | _ => False))
      ((List.range os.length).map (· + 1)) (({ tmps := args.toArray ++ Array.replicate (fn.ntmps - args.toArray.size) undef, defers := [] } : Act).put (some d) v0) (c₁ :: cs) w := by
    rintro c₁ rfl
    refine S_of_WOps (N := N) (K := WC P ⟨N, none⟩ y (finQ P fn G fun _ _ => False)) (fun _ => trivial) ?_ _ os _ w ?_ hos (by rw [size_put]; exact hs) ?_
    · intro a' w' ha hwc
      have hp := wpIn_of_WC (P := P) (n := ⟨N, none⟩) y (finQ P fn G fun _ _ => False) a' w' ha hy hwc
      refine wpSIn_of_wpIn rfl (wpIn_mono hp ?_)
      rintro e a2 w2 ⟨_, hq⟩
      cases e with
      | normal => obtain ⟨h1, h2⟩ := hq; obtain ⟨l, h3, h4⟩ := run_results h2; exact ⟨h1, _, rfl, _, h4, rfl, h3⟩
      | ret => obtain ⟨h1, h2⟩ := hq; obtain ⟨l, h3, h4⟩ := run_results h2; exact ⟨h1, _, rfl, _, h4, rfl, h3⟩
      | panic ch => exact hq.2.elim
      | exit _ => exact hq.elim
      | goto _ => exact hq.elim
      | outgrown => exact hq.elim
    · refine List.ext_getElem? fun i => ?_
      rw [List.map_map, List.getElem?_map, List.getElem?_map]
      by_cases hi : i < os.length
      · rw [List.getElem?_range hi]; simp [hi]
      · rw [List.getElem?_eq_none (by simpa using hi), List.getElem?_eq_none (by simpa using hi)]; rfl
    · rw [defers_put, toFr_put v0 (by rw [hs]; exact hd), toFr_args]
      exact h
  rcases hu with ⟨rfl, rfl, rfl⟩ | ⟨p, rfl, rfl, rfl⟩
  · have hrd : recoverD (c₀ :: cs) = none := by simp [recoverD, hc]
    rw [hrd]
    exact key c₀ (by cases c₀; simp_all)
  · have hrd : recoverD (c₀ :: cs) = some (v0, { c₀ with mode := .panicking [{ v := v0, recovered := true }] } :: cs) := by simp [recoverD, hc]
    rw [hrd]
    exact key _ rfl

/-! ### Results in cells -/
section
variable {P : Program} {fn : Func} {R : Value → World → Prop} {Y : List PanicEntry → World → Prop} {f : Fr} {w : World} {ds : DS}
theorem run_loadVar_one {T b o : Nat} {v : Value} (hT : OneT P T) (hc : w.cell? ⟨b, o, none⟩ = some v) : (loadVar T ⟨b, o, none⟩).run P w = .ok v w := by
  obtain ⟨dd, h1, h2⟩ := hT.out
  have e : (isAgg T).run P w = .ok false w := by
    simp only [isAgg, Sem.run_bind, run_underlying h1, Result.andThen_ok]
    cases dd <;> simp_all [aggD]
  simp only [loadVar, Sem.run_bind, e, Result.andThen_ok]
  simp [hc]
theorem res_cell {T b o t : Nat} {v : Value} {l : List ResultVar} {k : List Value → Prop} [hT : OneT P T] (ha : f t = .pointer (some ⟨b, o, none⟩)) (hc : w.cell? ⟨b, o, none⟩ = some v) (h : resVals P l f w fun r => k (v :: r)) : resVals P (.cell t T :: l) f w k :=
  ⟨_, v, ha, run_loadVar_one hT hc, h⟩
theorem finD_ret_nil (h : resVals P fn.results.toList f w fun l => R (tupleOf l) w) : finD P fn R Y .ret f [] w := h
theorem finD_end_nil (h : resVals P fn.results.toList f w fun l => R (tupleOf l) w) : finD P fn R Y .normal f [] w := h
/-- left in good order, with one deferred call -/
theorem finD_ret_def {g : FuncId} {a c : List Value} [hg : PlainFn P g] {G : World → Prop} (hc : CallsDIn Fence.wide 0 P g (a ++ c).toArray .returning w (fun e u' w' => match e with | .returned _ => u' = .returning ∧ G w' | _ => False))
    (h : ∀ w', G w' → resVals P fn.results.toList f w' fun l => R (tupleOf l) w') : finD P fn R Y .ret f [{ target := .fn (.func g) c.toArray, args := a.toArray }] w := by
  obtain ⟨fn', h1, h2, h3⟩ := hg.out
  refine ⟨by simp, .inr ⟨_, _, g, (a ++ c).toArray, rfl, ?_, hc.mono ?_⟩⟩
  · simp only [invoke, callFunc, program]
    simp [Sem.run, h1, h2, h3]
  · intro e u' w' he
    cases e with
    | returned v => obtain ⟨rfl, hG⟩ := he; exact h w' hG
    | panicked _ => exact he.elim
    | outgrown => exact he.elim
/-- left by a panic, with one deferred call that recovers -/
theorem finD_pan_def {g : FuncId} {a c : List Value} {p : Value} [hg : PlainFn P g] {G : World → Prop} (hc : CallsDIn Fence.wide 0 P g (a ++ c).toArray (.panicking [{ v := p, recovered := false }]) w (fun e u' w' => match e with | .returned _ => u' = .panicking [{ v := p, recovered := true }] ∧ G w' | _ => False))
    (h : ∀ w', G w' → resVals P fn.results.toList f w' fun l => R (tupleOf l) w') : finD P fn R Y (.panic [{ v := p, recovered := false }]) f [{ target := .fn (.func g) c.toArray, args := a.toArray }] w := by
  obtain ⟨fn', h1, h2, h3⟩ := hg.out
  refine ⟨by simp, .inr ⟨_, _, g, (a ++ c).toArray, rfl, ?_, hc.mono ?_⟩⟩
  · simp only [invoke, callFunc, program]
    simp [Sem.run, h1, h2, h3]
  · intro e u' w' he
    cases e with
    | returned v => obtain ⟨rfl, hG⟩ := he; exact h w' hG
    | panicked _ => exact he.elim
    | outgrown => exact he.elim
end

/-! ### The next step of a walk, found by its shape -/
class Nx (g : Prop) (s : outParam Prop) : Prop where
  imp : s → g
theorem nx {g s : Prop} [h : Nx g s] (x : s) : g := h.imp x
section
variable {P : Program} {n : Cf} {Q : Post} {f : Fr} {ds : DS} {w : World} {a b : Code} {k : Fr → DS → World → Prop} {i l : Nat} {c : List PanicEntry}
instance : Nx (WC P n (.seq a b) Q f ds w) (WC P n a (thenQ (WC P n b Q) Q) f ds w) := ⟨C_seq⟩
instance : Nx (WC P n (.block i a) Q f ds w) (WC P n a (blockQ i Q) f ds w) := ⟨C_block⟩
instance : Nx (WC P n (.scope a) Q f ds w) (WC P n a (scopeQ Q) f ds w) := ⟨C_scope⟩
instance : Nx (WC P n .skip Q f ds w) (Q .normal f ds w) := ⟨C_skip⟩
instance : Nx (WC P n (.label l) Q f ds w) (Q .normal f ds w) := ⟨C_label⟩
instance : Nx (WC P n .ret Q f ds w) (Q .ret f ds w) := ⟨C_ret⟩
instance : Nx (WC P n (.exit i) Q f ds w) (Q (.exit i) f ds w) := ⟨C_exit⟩
instance : Nx (thenQ k Q .normal f ds w) (k f ds w) := ⟨Q_then⟩
instance : Nx (thenQ k Q .ret f ds w) (Q .ret f ds w) := ⟨Q_then_ret⟩
instance : Nx (thenQ k Q (.exit i) f ds w) (Q (.exit i) f ds w) := ⟨Q_then_exit⟩
instance : Nx (thenQ k Q (.panic c) f ds w) (Q (.panic c) f ds w) := ⟨Q_then_panic⟩
instance : Nx (blockQ i Q .normal f ds w) (Q .normal f ds w) := ⟨Q_block⟩
instance : Nx (blockQ i Q .ret f ds w) (Q .ret f ds w) := ⟨Q_block_ret⟩
instance : Nx (blockQ i Q (.panic c) f ds w) (Q (.panic c) f ds w) := ⟨Q_block_panic⟩
instance : Nx (blockQ i Q (.exit i) f ds w) (Q .normal f ds w) := ⟨Q_block_here⟩
instance : Nx (asnQ k .normal f ds w) (k f ds w) := ⟨Q_asn⟩
instance : Nx (scopeQ Q .normal f ds w) (Q .normal f ds w) := ⟨fun h => h⟩
instance : Nx (scopeQ Q .ret f ds w) (Q .ret f ds w) := ⟨fun h => h⟩
instance : Nx (scopeQ Q (.exit i) f ds w) (Q (.exit i) f ds w) := ⟨fun h => h⟩
instance : Nx (scopeQ Q (.panic c) f ds w) (Q (.panic c) f ds w) := ⟨fun h => h⟩
end
end Go.Proofs.YtmnhnbpnjepkbaaGreatDoor

namespace Go.Proofs.YtmnhnbpnjepkbaaGreatDoor
open Go.RowKit
set_option linter.unusedVariables false

theorem rec_ret (w : World) (c2 c3 c4 : Nat) : CallsDIn Fence.wide 0 Tryz.prog 50 ([] ++ [pt c2, pt c3, pt c4] : List Value).toArray .returning w (fun e u' w' => match e with | .returned _ => u' = .returning ∧ Ext w w' | _ => False) := by
  refine callsD_rec (u1 := .returning) (v0 := .nilIface) (G := fun _ w' => Ext w w') (args := [pt c2, pt c3, pt c4]) Tryz.func50 rfl Tryz.ntmps50 (by simp) (by decide) (by kernel_rfl) (by kernel_rfl) (.inl ⟨rfl, rfl, rfl⟩) ?_
  refine W_assert_nil (z := .agg #[.int .i64 0, .int .i64 0]) rfl (by kernel_rfl) ?_
  ((first | refine M_tuple rfl ?_ | refine W_move ?_)
   <;> refine W_extract rfl rfl ?_
   <;> refine W_extract rfl rfl ?_)
  -- at operation 5: <dst=(some 3) op=(alloc 98) type=0 guard=none>
  refine W_alloc (fun w1 n1 => ?_)
  refine W_store_agg (cs := [.int .i64 0, .int .i64 0]) rfl rfl rfl (by intro u hu; simp at hu; subst hu; rfl) n1.blk (by simp) (fun w2 p2 => ?_)
  have k2 : Ext w w2 := n1.keep.keep p2.keep (by simp)
  ((refine M_assign ?_; (first | refine M_bool rfl ?_ | refine W_move ?_))
   <;> refine W_nil ?_)
  repeat' first | refine nx ?_ | refine C_cond_t rfl ?_ | refine C_cond_f rfl ?_ | refine Q_block_on rfl ?_
  (refine C_region ?_
   <;> (first | refine M_bool rfl ?_ | refine W_move ?_)
   <;> refine W_nil ?_)
  repeat' first | refine nx ?_ | refine C_cond_t rfl ?_ | refine C_cond_f rfl ?_ | refine Q_block_on rfl ?_
  exact fin_end0 rfl k2

theorem rec_pan (w : World) (c2 c3 c4 : Nat) (x2 x3 x4 : Value) (e q : Int) (d2 : Blk w c2 24 [x2]) (d3 : Blk w c3 25 [x3]) (d4 : Blk w c4 3 [x4]) (h23 : c2 ≠ c3) (h24 : c2 ≠ c4) (h34 : c3 ≠ c4) :
    CallsDIn Fence.wide 0 Tryz.prog 50 ([] ++ [pt c2, pt c3, pt c4] : List Value).toArray (.panicking [{ v := .iface 98 (.agg #[.int .i64 e, .int .i64 q]), recovered := false }]) w
      (fun en u' w' => match en with | .returned _ => u' = .panicking [{ v := .iface 98 (.agg #[.int .i64 e, .int .i64 q]), recovered := true }] ∧ (Keep [c2, c3, c4] w w' ∧ Blk w' c2 24 [.slice none 0 0] ∧ Blk w' c3 25 [.int .i64 e] ∧ Blk w' c4 3 [.int .i64 q]) | _ => False) := by
  have l2 := d2.lt
  have l3 := d3.lt
  have l4 := d4.lt
  refine callsD_rec (u1 := .panicking [{ v := .iface 98 (.agg #[.int .i64 e, .int .i64 q]), recovered := true }]) (v0 := .iface 98 (.agg #[.int .i64 e, .int .i64 q]))
    (G := fun _ w' => Keep [c2, c3, c4] w w' ∧ Blk w' c2 24 [.slice none 0 0] ∧ Blk w' c3 25 [.int .i64 e] ∧ Blk w' c4 3 [.int .i64 q]) (args := [pt c2, pt c3, pt c4]) Tryz.func50 rfl Tryz.ntmps50 (by simp) (by decide) (by kernel_rfl) (by kernel_rfl) (.inr ⟨_, rfl, rfl, rfl⟩) ?_
  refine W_assert_yes rfl ?_
  ((first | refine M_tuple rfl ?_ | refine W_move ?_)
   <;> refine W_extract rfl rfl ?_
   <;> refine W_extract rfl rfl ?_)
  -- at operation 5: <dst=(some 3) op=(alloc 98) type=0 guard=none>
  refine W_alloc (fun w1 n1 => ?_)
  refine W_store_agg (cs := [.int .i64 e, .int .i64 q]) rfl rfl rfl (by intro u hu; simp at hu; rcases hu with rfl | rfl <;> rfl) n1.blk (by simp) (fun w2 p2 => ?_)
  have k2 : Ext w w2 := n1.keep.keep p2.keep (by simp)
  have b3 : Blk w2 w.heap.size 98 [.int .i64 e, .int .i64 q] := p2.blk
  replace d2 := d2.keep k2 (by simp)
  replace d3 := d3.keep k2 (by simp)
  replace d4 := d4.keep k2 (by simp)
  ((refine M_assign ?_; (first | refine M_bool rfl ?_ | refine W_move ?_))
   <;> refine W_nil ?_)
  repeat' first | refine nx ?_ | refine C_cond_t rfl ?_ | refine C_cond_f rfl ?_ | refine Q_block_on rfl ?_
  (refine C_region ?_
   <;> (first | refine M_bool rfl ?_ | refine W_move ?_)
   <;> refine W_nil ?_)
  repeat' first | refine nx ?_ | refine C_cond_t rfl ?_ | refine C_cond_f rfl ?_ | refine Q_block_on rfl ?_
  refine C_drawN (.read 0 (.read 1 (.read 2 (.read 3 (.alt 4 (.alt 5 (.alt 6 .done .stop) .stop) .stop))))) mixed (by kernel_rfl) (fun wd kd ed => ⟨fun W => W.cell? ⟨w.heap.size, 0, none⟩ = some (.int .i64 e) ∧ W.cell? ⟨w.heap.size, 1, none⟩ = some (.int .i64 q), ?_, ?_⟩)
  · exact ⟨(b3.keep kd (by simp)).cell rfl, (b3.keep kd (by simp)).cell rfl⟩
  have fc0 : ∀ W : World, (W.cell? ⟨w.heap.size, 0, none⟩ = some (.int .i64 e) ∧ W.cell? ⟨w.heap.size, 1, none⟩ = some (.int .i64 q)) → W.cell? ⟨w.heap.size, 0, none⟩ = some (.int .i64 e) := fun W h => h.1
  have fc1 : ∀ W : World, (W.cell? ⟨w.heap.size, 0, none⟩ = some (.int .i64 e) ∧ W.cell? ⟨w.heap.size, 1, none⟩ = some (.int .i64 q)) → W.cell? ⟨w.heap.size, 1, none⟩ = some (.int .i64 q) := fun W h => h.2
  replace b3 := b3.keep kd (by simp)
  replace d2 := d2.keep kd (by simp)
  replace d3 := d3.keep kd (by simp)
  replace d4 := d4.keep kd (by simp)
  have k : Keep [c2, c3, c4] w wd := (k2.trans kd).any
  ((apply D_R rfl rfl; (intro W hW; refine W_fieldAddr rfl ?_; exact W_nil ⟨rfl, rfl, rfl⟩))
   <;> (apply D_R rfl rfl; (intro W hW; (first | refine W_load rfl (fc0 W hW) ?_ | refine W_load rfl (fc1 W hW) ?_ | refine W_load_agg rfl (by rfl) (fc0 W hW) ?_ | refine W_load_agg rfl (by rfl) (fc1 W hW) ?_); exact W_nil ⟨rfl, rfl, rfl⟩))
   <;> (apply D_R rfl rfl; (intro W hW; refine W_fieldAddr rfl ?_; exact W_nil ⟨rfl, rfl, rfl⟩))
   <;> (apply D_R rfl rfl; (intro W hW; (first | refine W_load rfl (fc0 W hW) ?_ | refine W_load rfl (fc1 W hW) ?_ | refine W_load_agg rfl (by rfl) (fc0 W hW) ?_ | refine W_load_agg rfl (by rfl) (fc1 W hW) ?_); exact W_nil ⟨rfl, rfl, rfl⟩)))
  -- at place 4, operation 4: <dst=none op=(store 24 (tmp 0) (const (slice none 0 0))) type=0 guard=none>
  refine D_E rfl ?_
  refine W_store rfl rfl rfl d2 (by simp) (fun W p => ?_)
  have bb := p.blk
  replace d3 := d3.keep p.keep (by simp; omega)
  replace d4 := d4.keep p.keep (by simp; omega)
  replace b3 := b3.keep p.keep (by simp; omega)
  replace k := k.trans p.keep (by simp)
  clear d2
  have d2 := bb
  clear bb p
  refine W_nil ⟨_, fun _ h => h, ⟨b3.cell rfl, b3.cell rfl⟩, ?_⟩
  refine D_E rfl ?_
  refine W_store rfl rfl rfl d3 (by simp) (fun W p => ?_)
  have bb := p.blk
  replace d2 := d2.keep p.keep (by simp; omega)
  replace d4 := d4.keep p.keep (by simp; omega)
  replace b3 := b3.keep p.keep (by simp; omega)
  replace k := k.trans p.keep (by simp)
  clear d3
  have d3 := bb
  clear bb p
  refine W_nil ⟨_, fun _ h => h, ⟨b3.cell rfl, b3.cell rfl⟩, ?_⟩
  refine D_E rfl ?_
  refine W_store rfl rfl rfl d4 (by simp) (fun W p => ?_)
  have bb := p.blk
  replace d2 := d2.keep p.keep (by simp; omega)
  replace d3 := d3.keep p.keep (by simp; omega)
  replace b3 := b3.keep p.keep (by simp; omega)
  replace k := k.trans p.keep (by simp)
  clear d4
  have d4 := bb
  clear bb p
  refine W_nil ⟨_, fun _ h => h, ⟨b3.cell rfl, b3.cell rfl⟩, ?_⟩
  refine D_nil ?_
  repeat' first | refine nx ?_ | refine C_cond_t rfl ?_ | refine C_cond_f rfl ?_ | refine Q_block_on rfl ?_
  exact fin_end0 rfl ⟨k, d2, d3, d4⟩
end Go.Proofs.YtmnhnbpnjepkbaaGreatDoor

namespace Go.Proofs.YtmnhnbpnjepkbaaGreatDoor
open Go.RowKit
set_option linter.unusedVariables false

def lexM (t : List UInt8) : Except (Int × Nat) (List Tok) :=
  if 6000 < t.length then .error (2, 6000) else match scanR t with | .ok r => .ok r.2 | .error e => .error e
/-- what Lex answers: slice, error, offset -/
def LexAns (B : Nat) (w' : World) (m : Except (Int × Nat) (List Tok)) (tv : Value) (e q : Int) : Prop :=
  match m with
  | .ok ts => e = 0 ∧ q = -1 ∧ w'.ownsRow B 32 3 tv ts.length (toksC ts)
  | .error (e', p) => e = e' ∧ q = (p : Int) ∧ tv = .slice none 0 0

theorem lex_ok (w : World) (t : List UInt8) (hG : GV w) : Fn Tryz.prog 34 [strV t] w fun v w' => ∃ tv e q, v = .tuple #[tv, .int .i64 e, .int .i64 q] ∧ Ext w w' ∧ LexAns w.heap.size w' (lexM t) tv e q := by
  have h2 := hG.size
  refine fn_of_wcD Tryz.func34 rfl Tryz.ntmps34 (Nat.le_of_ble_eq_true rfl) (by kernel_rfl) ?_
  repeat' first | refine nx ?_ | refine C_cond_t rfl ?_ | refine C_cond_f rfl ?_ | refine Q_block_on rfl ?_
  (refine C_region ?_)
  -- at operation 0: <dst=(some 2) op=(alloc 24) type=0 guard=none>
  refine W_alloc (fun w1 n1 => ?_)
  refine W_alloc (fun w2 n2 => ?_)
  refine W_alloc (fun w3 n3 => ?_)
  have z1 := n1.size
  have z2 := n2.size
  have z3 := n3.size
  have b1 : Blk w3 w.heap.size 24 [.slice none 0 0] := (n1.blk.keep n2.keep (by simp)).keep n3.keep (by simp)
  have b2 : Blk w3 w1.heap.size 25 [.int .i64 0] := n2.blk.keep n3.keep (by simp)
  have b3 : Blk w3 w2.heap.size 3 [.int .i64 0] := n3.blk
  have k3 : Ext w w3 := (n1.keep.trans n2.keep).trans n3.keep
  refine W_nil ?_
  repeat' first | refine nx ?_ | refine C_cond_t rfl ?_ | refine C_cond_f rfl ?_ | refine Q_block_on rfl ?_
  by_cases hlen : 6000 < t.length
  · (refine C_region ?_
     <;> (first | refine M_str rfl ?_ | refine W_move ?_)
     <;> refine W_slen rfl ?_
     <;> (refine W_gtr rfl rfl (fun hc => ?_) (fun hc => ?_) <;> try (exfalso; omega))
     <;> refine W_nil ?_)
    repeat' first | refine nx ?_ | refine C_cond_t rfl ?_ | refine C_cond_f rfl ?_ | refine Q_block_on rfl ?_
    (refine C_region ?_; refine W_store rfl rfl rfl b1 (by simp) (fun w4 p4 => ?_))
    refine W_store rfl rfl rfl (b2.keep p4.keep (by simp; omega)) (by simp) (fun w5 p5 => ?_)
    refine W_store rfl rfl rfl ((b3.keep p4.keep (by simp; omega)).keep p5.keep (by simp; omega)) (by simp) (fun w6 p6 => ?_)
    have c1 : Blk w6 w.heap.size 24 [.slice none 0 0] := (p4.blk.keep p5.keep (by simp; omega)).keep p6.keep (by simp; omega)
    have c2 : Blk w6 w1.heap.size 25 [.int .i64 2] := p5.blk.keep p6.keep (by simp; omega)
    have c3 : Blk w6 w2.heap.size 3 [.int .i64 6000] := p6.blk
    have k6 : Ext w w6 := ((k3.keep p4.keep (by simp)).keep p5.keep (by simp; omega)).keep p6.keep (by simp; omega)
    refine W_nil ?_
    repeat' first | refine nx ?_ | refine C_cond_t rfl ?_ | refine C_cond_f rfl ?_ | refine Q_block_on rfl ?_
    refine finD_ret_nil (res_cell rfl (c1.cell rfl) (res_cell rfl (c2.cell rfl) (res_cell rfl (c3.cell rfl) ?_)))
    refine ⟨_, _, _, rfl, k6, ?_⟩
    unfold lexM
    rw [if_pos hlen]
    exact ⟨rfl, rfl, rfl⟩
  · (refine C_region ?_
     <;> (first | refine M_str rfl ?_ | refine W_move ?_)
     <;> refine W_slen rfl ?_
     <;> (refine W_gtr rfl rfl (fun hc => ?_) (fun hc => ?_) <;> try (exfalso; omega))
     <;> refine W_nil ?_)
    repeat' first | refine nx ?_ | refine C_cond_t rfl ?_ | refine C_cond_f rfl ?_ | refine Q_block_on rfl ?_
    (refine C_region ?_
     <;> refine W_makeFunc rfl rfl ?_)
    -- at operation 1: <dst=none op=(defer <callee=(value (tmp 9)) args=[] argTypes=[]>) type=0 guard=none>
    refine W_defer (v1 := []) (v2 := [pt w.heap.size, pt w1.heap.size, pt w2.heap.size]) (vs := []) rfl rfl ?_
    refine W_nil ?_
    repeat' first | refine nx ?_ | refine C_cond_t rfl ?_ | refine C_cond_f rfl ?_ | refine Q_block_on rfl ?_
    (refine C_region ?_
     <;> (first | refine M_str rfl ?_ | refine W_move ?_)
     <;> refine W_build (by rfl) (by rfl) ?_)
    -- at operation 2: <dst=(some 12) op=(box 102 (tmp 11)) type=100 guard=none>
    refine W_box (L := [strV t, .int .i64 0, .slice none 0 0]) rfl (fun w4 n4 => ?_)
    have z4 := n4.size
    have s4 := n4.blk
    have k4 : Ext w w4 := k3.trans n4.keep
    ((refine M_assign ?_; (first | refine M_ptr rfl ?_ | refine W_move ?_))
     <;> refine W_nil ?_)
    repeat' first | refine nx ?_ | refine C_cond_t rfl ?_ | refine C_cond_f rfl ?_ | refine Q_block_on rfl ?_
    (refine C_region ?_
     <;> (first | refine M_ptr rfl ?_ | refine W_move ?_))
    -- at operation 1: <dst=(some 14) op=(call <callee=(value (func 51)) args=[(tmp 13)] argTypes=[100]>) type=0 guard=none>
    have hm : lexM t = match scanR t with | .ok r => .ok r.2 | .error e => .error e := by unfold lexM; rw [if_neg hlen]
    refine W_callP (scan_ok w4 w3.heap.size t s4 (hG.ext k4) (by omega) (by omega)) rfl ?_ ?_
    · rintro v w5 ⟨rfl, a, ts, he, h5⟩
      obtain ⟨hk5, hs5, _, ha5, hn5, tv, hb5, ho5⟩ := h5
      refine W_nil ?_
      repeat' first | refine nx ?_ | refine C_cond_t rfl ?_ | refine C_cond_f rfl ?_ | refine Q_block_on rfl ?_
      (refine C_region ?_
       <;> (first | refine M_ptr rfl ?_ | refine W_move ?_)
       <;> refine W_nilCheck rfl ?_
       <;> refine W_fieldAddr rfl ?_
       <;> (first | refine W_load rfl (Blk.cell (by assumption) (by rfl)) ?_ | refine W_load rfl (by assumption) ?_))
      -- at operation 4: <dst=none op=(store 24 (tmp 2) (tmp 18)) type=0 guard=none>
      have e1 : Blk w5 w.heap.size 24 [.slice none 0 0] := (b1.keep n4.keep (by simp)).keep hk5 (by simp; omega)
      have e2 : Blk w5 w1.heap.size 25 [.int .i64 0] := (b2.keep n4.keep (by simp)).keep hk5 (by simp; omega)
      have e3 : Blk w5 w2.heap.size 3 [.int .i64 0] := (b3.keep n4.keep (by simp)).keep hk5 (by simp; omega)
      obtain ⟨tp, tc, rfl⟩ : ∃ tp tc, tv = .slice tp ts.length tc := by
        rcases ho5.2 with ⟨rfl, h0⟩ | ⟨g, cap, cur, rfl, _⟩
        · exact ⟨none, 0, by rw [h0]⟩
        · exact ⟨_, _, rfl⟩
      refine W_store rfl rfl rfl e1 (by simp) (fun w6 p6 => ?_)
      refine W_store rfl rfl rfl (e2.keep p6.keep (by simp; omega)) (by simp) (fun w7 p7 => ?_)
      refine W_store rfl rfl rfl ((e3.keep p6.keep (by simp; omega)).keep p7.keep (by simp; omega)) (by simp) (fun w8 p8 => ?_)
      have c1 : Blk w8 w.heap.size 24 [.slice tp ts.length tc] := (p6.blk.keep p7.keep (by simp; omega)).keep p8.keep (by simp; omega)
      have c2 : Blk w8 w1.heap.size 25 [.int .i64 0] := p7.blk.keep p8.keep (by simp; omega)
      have c3 : Blk w8 w2.heap.size 3 [.int .i64 (-1)] := p8.blk
      have k5 : Ext w w5 := k4.keep hk5 (by simp; omega)
      have k8 : Ext w w8 := ((k5.keep p6.keep (by simp)).keep p7.keep (by simp; omega)).keep p8.keep (by simp; omega)
      have hne : ∀ g, (Value.slice tp ts.length tc).ownBlock = some g → w4.heap.size ≤ g := fun g hg => (own_in ho5 hg).1
      have o8 := ownsRow_keep (ownsRow_keep (ownsRow_keep ho5 p6.keep fun g hg => by have := hne g hg; simp; omega) p7.keep fun g hg => by have := hne g hg; simp; omega) p8.keep fun g hg => by have := hne g hg; simp; omega
      refine W_nil ?_
      repeat' first | refine nx ?_ | refine C_cond_t rfl ?_ | refine C_cond_f rfl ?_ | refine Q_block_on rfl ?_
      refine finD_ret_def (rec_ret _ _ _ _) fun w9 k9 => ?_
      refine res_cell rfl ((c1.keep k9 (by simp)).cell rfl) (res_cell rfl ((c2.keep k9 (by simp)).cell rfl) (res_cell rfl ((c3.keep k9 (by simp)).cell rfl) ?_))
      refine ⟨_, _, _, rfl, k8.trans k9, ?_⟩
      rw [hm, he]
      exact ⟨rfl, rfl, ownsRow_mono (ownsRow_ext o8 k9) k4.size⟩
    · rintro ch w5 ⟨e, p, he, rfl, hk5⟩
      repeat' first | refine nx ?_ | refine C_cond_t rfl ?_ | refine C_cond_f rfl ?_ | refine Q_block_on rfl ?_
      have e1 : Blk w5 w.heap.size 24 [.slice none 0 0] := (b1.keep n4.keep (by simp)).keep hk5 (by simp; omega)
      have e2 : Blk w5 w1.heap.size 25 [.int .i64 0] := (b2.keep n4.keep (by simp)).keep hk5 (by simp; omega)
      have e3 : Blk w5 w2.heap.size 3 [.int .i64 0] := (b3.keep n4.keep (by simp)).keep hk5 (by simp; omega)
      have k5 : Ext w w5 := k4.keep hk5 (by simp; omega)
      refine finD_pan_def (rec_pan _ _ _ _ _ _ _ e (p : Int) e1 e2 e3 (by omega) (by omega) (by omega)) fun w9 h9 => ?_
      obtain ⟨k9, c1, c2, c3⟩ := h9
      refine res_cell rfl (c1.cell rfl) (res_cell rfl (c2.cell rfl) (res_cell rfl (c3.cell rfl) ?_))
      refine ⟨_, _, _, rfl, k5.keep k9 (by simp; omega), ?_⟩
      rw [hm, he]
      exact ⟨rfl, rfl, rfl⟩
end Go.Proofs.YtmnhnbpnjepkbaaGreatDoor

namespace Go.Proofs.YtmnhnbpnjepkbaaGreatDoor
open Go.RowKit
set_option linter.unusedVariables false

/-- a slice that reads as these tokens -/
def Toks (w : World) (a : Option Addr) (c : Nat) (ts : List Tok) : Prop := Sl anyB w (.slice a ts.length c) ts.length (toksC ts)
theorem Toks.ext {w w' : World} {a : Option Addr} {c : Nat} {ts : List Tok} (h : Toks w a c ts) (k : Ext w w') : Toks w' a c ts := Sl.ext h k

theorem toksC_get : ∀ (ts : List Tok) (k j : Nat) (x : Tok) (v : Value), ts[k]? = some x → (tokC x)[j]? = some v → (toksC ts)[k * 3 + j]? = some v
  | [], k, j, x, v, h, _ => by simp at h
  | y :: ts, 0, j, x, v, h, hv => by
    simp at h; subst h
    obtain ⟨hj, _⟩ := List.getElem?_eq_some_iff.1 hv
    have e : toksC (y :: ts) = tokC y ++ toksC ts := by simp [toksC]
    rw [e, Nat.zero_mul, Nat.zero_add, List.getElem?_append_left hj]; exact hv
  | y :: ts, k + 1, j, x, v, h, hv => by
    have e : toksC (y :: ts) = tokC y ++ toksC ts := by simp [toksC]
    have hl : (tokC y).length = 3 := rfl
    rw [e, List.getElem?_append_right (by rw [hl]; omega), hl, show (k + 1) * 3 + j - 3 = k * 3 + j by omega]
    exact toksC_get ts k j x v (by simpa using h) hv

/-- where token k lies -/
theorem Toks.at {w : World} {a : Option Addr} {c k : Nat} {ts : List Tok} {x : Tok} (h : Toks w a c ts) (hx : ts[k]? = some x) :
    ∃ b o, a = some ⟨b, o, none⟩ ∧ Cells w b (o + k * 3) (tokC x) := by
  obtain ⟨a', cap, hv, h1, h2, h3, h4⟩ := h
  cases hv
  have hlt := (List.getElem?_eq_some_iff.1 hx).1
  obtain ⟨b, o, rfl, _, hc⟩ := h4.resolve_left (by omega)
  refine ⟨b, o, rfl, fun j v hv => ?_⟩
  have := hc _ _ (toksC_get ts k j x v hx hv)
  rwa [← Nat.add_assoc] at this

theorem addM_err {t : List UInt8} {a n p : Nat} {ts : List Tok} {k e : Int} (h : addM t a ts k n = .error (e, p)) : e = 2 ∧ p = a ∧ ts.length = 2000 := by
  unfold addM at h
  split at h
  · cases h; exact ⟨rfl, rfl, by assumption⟩
  · cases h
theorem stepM_err {t : List UInt8} {a p : Nat} {ts : List Tok} {e : Int} (h : stepM t a ts = .error (e, p)) : p = a ∧ (e = 40 ∨ e = 2 ∧ ts.length = 2000) := by
  unfold stepM at h
  split at h
  · cases h
  · cases h
  · unfold nameM at h
    split at h
    · cases h; exact ⟨rfl, .inl rfl⟩
    · obtain ⟨h1, h2, h3⟩ := addM_err h; exact ⟨h2, .inr ⟨h1, h3⟩⟩
  · unfold numM at h
    split at h
    · cases h; exact ⟨rfl, .inl rfl⟩
    · obtain ⟨h1, h2, h3⟩ := addM_err h; exact ⟨h2, .inr ⟨h1, h3⟩⟩
  · unfold symM at h
    split at h
    · obtain ⟨h1, h2, h3⟩ := addM_err h; exact ⟨h2, .inr ⟨h1, h3⟩⟩
    · cases h; exact ⟨rfl, .inl rfl⟩
  · cases h; exact ⟨rfl, .inl rfl⟩
theorem scanF_err (t : List UInt8) : ∀ (n a : Nat) (ts : List Tok) (e : Int) (p : Nat), scanF t n a ts = .error (e, p) → e ≠ 0
  | 0, a, ts, e, p, h => by unfold scanF at h; cases h; decide
  | n + 1, a, ts, e, p, h => by
    unfold scanF at h
    split at h
    · cases hs : stepM t a ts with
      | ok r => rw [hs] at h; exact scanF_err t n _ _ e p h
      | error r =>
        rw [hs] at h
        cases h
        rcases (stepM_err hs).2 with rfl | ⟨rfl, _⟩ <;> decide
    · cases h
theorem lexM_err {t : List UInt8} {e : Int} {p : Nat} (h : lexM t = .error (e, p)) : e ≠ 0 := by
  unfold lexM at h
  split at h
  · cases h; decide
  · cases hs : scanR t with
    | ok r => rw [hs] at h; cases h
    | error r => rw [hs] at h; cases h; exact scanF_err t _ _ _ _ _ hs

/-- what Lex answers, read -/
theorem lexC (w : World) (t : List UInt8) (hG : GV w) : Fn Tryz.prog 34 [strV t] w fun v w' => ∃ a c e q ts, v = .tuple #[.slice a ts.length c, .int .i64 e, .int .i64 q] ∧ Ext w w' ∧ Toks w' a c ts ∧
    ((lexM t = .ok ts ∧ e = 0 ∧ q = -1) ∨ ∃ p : Nat, lexM t = .error (e, p) ∧ e ≠ 0 ∧ q = (p : Int) ∧ ts = []) := by
  refine (lex_ok w t hG).mono ?_
  rintro v w' ⟨tv, e, q, rfl, k, h⟩
  unfold LexAns at h
  cases hm : lexM t with
  | ok ts =>
    rw [hm] at h
    obtain ⟨rfl, rfl, ho⟩ := h
    have hs := Sl_of_own (ok := anyB) ho fun _ _ => trivial
    obtain ⟨a, c, rfl, hr⟩ := id hs
    exact ⟨a, c, 0, -1, ts, rfl, k, hs, .inl ⟨rfl, rfl, rfl⟩⟩
  | error r =>
    obtain ⟨e', p⟩ := r
    rw [hm] at h
    obtain ⟨rfl, rfl, rfl⟩ := h
    exact ⟨none, 0, e, p, [], rfl, k, ⟨_, _, rfl, by simp, by omega, fun _ => rfl, .inl rfl⟩, .inr ⟨p, rfl, lexM_err hm, rfl, rfl⟩⟩

theorem lexK (w : World) (t : List UInt8) (ts : List Tok) (n : Nat) (hm : lexM t = .ok ts) (hn : ts.length = n) (hG : GV w) :
    Fn Tryz.prog 34 [strV t] w fun v w' => ∃ a c, v = .tuple #[.slice a n c, .int .i64 0, .int .i64 (-1)] ∧ Ext w w' ∧ Toks w' a c ts := by
  refine (lexC w t hG).mono ?_
  rintro v w' ⟨a, c, e, q, ts', rfl, k, h, ⟨h1, rfl, rfl⟩ | ⟨p, h1, _⟩⟩
  · rw [hm] at h1; cases h1; subst hn; exact ⟨a, c, rfl, k, h⟩
  · rw [hm] at h1; cases h1
theorem lexE (w : World) (t : List UInt8) (e : Int) (p : Nat) (hm : lexM t = .error (e, p)) (hG : GV w) :
    Fn Tryz.prog 34 [strV t] w fun v w' => ∃ a c, v = .tuple #[.slice a 0 c, .int .i64 e, .int .i64 (p : Int)] ∧ Ext w w' := by
  refine (lexC w t hG).mono ?_
  rintro v w' ⟨a, c, e', q, ts', rfl, k, h, ⟨h1, _⟩ | ⟨p', h1, _, rfl, rfl⟩⟩
  · rw [hm] at h1; cases h1
  · rw [hm] at h1; cases h1; exact ⟨a, c, rfl, k⟩

def ex1 : List UInt8 := [71, 40, 114, 45, 62, 70, 91, 51, 93, 103, 41]
def ex2 : List UInt8 := [97, 33, 61, 49, 32, 37, 32, 101, 110, 100]
def ex3 : List UInt8 := [120, 32, 45, 32, 121]
def ex4 : List UInt8 := [49, 50, 97]
def ex5 : List UInt8 := [70, 71, 32, 120]
def ex6 : List UInt8 := [32, 37, 32, 110, 111, 116, 104, 105, 110, 103]
theorem lex1 : lexM ex1 = .ok [⟨1, [71], 0⟩, ⟨3, [40], 1⟩, ⟨1, [114], 2⟩, ⟨3, [45, 62], 3⟩, ⟨1, [70], 5⟩, ⟨3, [91], 6⟩, ⟨2, [51], 7⟩, ⟨3, [93], 8⟩, ⟨1, [103], 9⟩, ⟨3, [41], 10⟩] := by kernel_rfl
theorem lex2 : lexM ex2 = .ok [⟨1, [97], 0⟩, ⟨3, [33, 61], 1⟩, ⟨2, [49], 3⟩] := by kernel_rfl
theorem lex3 : lexM ex3 = .error (40, 2) := by kernel_rfl
theorem lex4 : lexM ex4 = .error (40, 0) := by kernel_rfl
theorem lex5 : lexM ex5 = .ok [⟨1, [70], 0⟩, ⟨1, [71], 1⟩, ⟨1, [120], 3⟩] := by kernel_rfl
theorem lex6 : lexM ex6 = .ok [] := by kernel_rfl
end Go.Proofs.YtmnhnbpnjepkbaaGreatDoor

namespace Go.Proofs.YtmnhnbpnjepkbaaGreatDoor
set_option linter.unusedVariables false

theorem addM_le {t : List UInt8} {a n a' : Nat} {ts ts' : List Tok} {k : Int} (h : addM t a ts k n = .ok (a', ts')) : ts' = ts ++ [⟨k, (t.take n).drop a, a⟩] ∧ ts.length ≠ 2000 := by
  unfold addM at h
  split at h
  · cases h
  · cases h; exact ⟨rfl, by assumption⟩
theorem step_le {t : List UInt8} {a a' : Nat} {ts ts' : List Tok} (hl : a < t.length) (h : stepM t a ts = .ok (a', ts')) : a' ≤ t.length := by
  unfold stepM at h
  split at h
  · cases h; omega
  · cases h; exact whileB_le (by omega)
  · unfold nameM at h
    split at h
    · cases h
    · have := addM_ok h; have := whileB_le (p := inName) (t := t) (a := a + 1) (by omega); omega
  · unfold numM at h
    split at h
    · cases h
    · have := addM_ok h; have := whileB_le (p := isDig) (t := t) (a := a) (by omega); omega
  · unfold symM at h
    split at h
    · rename_i y hy
      have h2 := List.find?_some hy
      have := addM_ok h
      have := ((hasPre_iff _ _).1 h2).length_le
      simp at this; omega
    · cases h
  · cases h

theorem scanF_fuel (t : List UInt8) : ∀ (n m a : Nat) (ts : List Tok), a ≤ t.length → t.length < n + a → t.length < m + a → scanF t n a ts = scanF t m a ts
  | 0, _, _, _, h, h1, _ => by omega
  | _, 0, _, _, h, _, h2 => by omega
  | n + 1, m + 1, a, ts, h, h1, h2 => by
    unfold scanF
    split
    · cases hs : stepM t a ts with
      | ok r =>
        have e1 := step_on (by assumption) hs
        have e2 := step_le (by assumption) hs
        exact scanF_fuel t n m r.1 r.2 e2 (by omega) (by omega)
      | error e => rfl
    · rfl
def scanW (t : List UInt8) (a : Nat) (ts : List Tok) : Res := scanF t (t.length + 1 - a) a ts
theorem scanW_end {t : List UInt8} {ts : List Tok} : scanW t t.length ts = .ok (t.length, ts) := by
  unfold scanW
  rw [show t.length + 1 - t.length = 0 + 1 by omega]
  unfold scanF
  rw [if_neg (by omega)]
theorem scanW_step {t : List UInt8} {a : Nat} {ts : List Tok} (h : a < t.length) : scanW t a ts = match stepM t a ts with | .ok r => scanW t r.1 r.2 | .error e => .error e := by
  unfold scanW
  rw [show t.length + 1 - a = (t.length - a) + 1 by omega]
  conv => lhs; unfold scanF
  rw [if_pos h]
  cases hs : stepM t a ts with
  | ok r =>
    have e1 := step_on h hs
    have e2 := step_le h hs
    exact scanF_fuel t _ _ r.1 r.2 e2 (by omega) (by omega)
  | error e => rfl
theorem scanR_eq (t : List UInt8) : scanR t = scanW t 0 [] := rfl

/-! ### A text that goes on after a line feed -/
theorem whileB_app {p : UInt8 → Bool} (hp : p 10 = false) (t u : List UInt8) (a : Nat) (h : a ≤ t.length) : whileB p (t ++ 10 :: u) a = whileB p t a := by
  unfold whileB
  rw [List.drop_append_of_le_length h]
  congr 2
  generalize t.drop a = l
  induction l with
  | nil => simp [hp]
  | cons x l ih =>
    rw [List.cons_append, List.takeWhile_cons, List.takeWhile_cons]
    cases p x <;> simp [ih]
theorem take_app {t u : List UInt8} {n a : Nat} (h : n ≤ t.length) : ((t ++ u).take n).drop a = (t.take n).drop a := by
  rw [List.take_append_of_le_length h]
theorem addM_app (t u : List UInt8) (a n : Nat) (ts : List Tok) (k : Int) (h : n ≤ t.length) : addM (t ++ u) a ts k n = addM t a ts k n := by
  unfold addM; rw [take_app h]
theorem hasPre_app {t u y : List UInt8} (hy : (10 : UInt8) ∉ y) : hasPre (t ++ 10 :: u) y = hasPre t y := by
  rw [Bool.eq_iff_iff, hasPre_iff, hasPre_iff]
  constructor
  · intro h
    by_cases hl : y.length ≤ t.length
    · exact List.prefix_of_prefix_length_le h (List.prefix_append _ _) hl
    · exfalso
      have h1 : t ++ [10] <+: t ++ 10 :: u := ⟨u, by simp⟩
      have h2 : t ++ [10] <+: y := List.prefix_of_prefix_length_le h1 h (by simp; omega)
      exact hy (h2.subset (by simp))
  · intro h; exact h.trans (List.prefix_append _ _)
theorem getD_app {t u : List UInt8} {a : Nat} (h : a < t.length) : (t ++ u).getD a 0 = t.getD a 0 := by
  simp [List.getD_eq_getElem?_getD, List.getElem?_append_left h]
theorem step_app (t u : List UInt8) (a : Nat) (ts : List Tok) (h : a < t.length) : stepM (t ++ 10 :: u) a ts = stepM t a ts := by
  unfold stepM
  rw [getD_app h]
  cases kindB (t.getD a 0) with
  | none => rfl
  | some k =>
    match k with
    | 0 => rfl
    | 1 => simp only [commM]; rw [whileB_app (by decide) t u a (by omega)]
    | 2 =>
      simp only [nameM]
      rw [whileB_app (by decide) t u (a + 1) (by omega), addM_app _ _ _ _ _ _ (whileB_le (by omega))]
    | 3 =>
      have hle := whileB_le (p := isDig) (t := t) (a := a) (by omega)
      have hb : numBad (t ++ 10 :: u) a = numBad t a := by
        unfold numBad
        rw [whileB_app (by decide) t u a (by omega), getD_app h]
        congr 1
        by_cases hn : whileB isDig t a < t.length
        · rw [getD_app hn]; simp [hn]; intro _; omega
        · have e : whileB isDig t a = t.length := by omega
          rw [e]
          have : (t ++ 10 :: u).getD t.length 0 = 10 := by simp [List.getD_eq_getElem?_getD]
          rw [this]
          simp; decide
      simp only [numM]
      rw [hb, whileB_app (by decide) t u a (by omega), addM_app _ _ _ _ _ _ hle]
    | k + 4 =>
      simp only [symM]
      have hf : symsL.find? (hasPre ((t ++ 10 :: u).drop a)) = symsL.find? (hasPre (t.drop a)) := by
        have hn : ∀ y ∈ symsL, (10 : UInt8) ∉ y := by decide
        rw [List.drop_append_of_le_length (by omega)]
        generalize symsL = l at hn
        induction l with
        | nil => rfl
        | cons y l ih =>
          rw [List.find?_cons, List.find?_cons, hasPre_app (hn y (by simp)), ih fun z hz => hn z (by simp [hz])]
      rw [hf]
      split
      · rename_i y hy
        have := ((hasPre_iff _ _).1 (List.find?_some hy)).length_le
        simp at this
        rw [addM_app _ _ _ _ _ _ (by omega)]
      · rfl

theorem scanW_app (t u : List UInt8) : ∀ (m a : Nat) (ts : List Tok), t.length - a ≤ m → a ≤ t.length →
    scanW (t ++ 10 :: u) a ts = match scanW t a ts with | .ok r => scanW (t ++ 10 :: u) t.length r.2 | .error e => .error e := by
  intro m
  induction m with
  | zero =>
    intro a ts hm ha
    obtain rfl : a = t.length := by omega
    rw [scanW_end]
  | succ m ih =>
    intro a ts hm ha
    by_cases h : a < t.length
    · rw [scanW_step (t := t ++ 10 :: u) (by simp; omega), scanW_step h, step_app t u a ts h]
      cases hs : stepM t a ts with
      | ok r =>
        have e1 := step_on h hs
        have e2 := step_le h hs
        exact ih r.1 r.2 (by omega) e2
      | error e => rfl
    · obtain rfl : a = t.length := by omega
      rw [scanW_end]

theorem lexM_of {t : List UInt8} (h : t.length ≤ 6000) : lexM t = match scanW t 0 [] with | .ok r => .ok r.2 | .error e => .error e := by
  unfold lexM; rw [if_neg (by omega), scanR_eq] <;> cases scanW t 0 [] <;> rfl
theorem late_law {t u : List UInt8} {e : Int × Nat} (ht : t.length ≤ 1500) (hu : u.length ≤ 1500) (h : lexM t = .error e) : lexM (t ++ 10 :: u) = .error e := by
  rw [lexM_of (by simp; omega), scanW_app t u t.length 0 [] (by omega) (by omega)]
  rw [lexM_of (by omega)] at h
  cases hs : scanW t 0 [] with
  | ok r => rw [hs] at h; cases h
  | error e' => rw [hs] at h; exact h
end Go.Proofs.YtmnhnbpnjepkbaaGreatDoor

namespace Go.Proofs.YtmnhnbpnjepkbaaGreatDoor
set_option linter.unusedVariables false

inductive Reach1 (t : List UInt8) : Nat → List Tok → Nat → List Tok → Prop
  | refl (a : Nat) (ts : List Tok) : Reach1 t a ts a ts
  | step {a a1 b : Nat} {ts ts1 tsb : List Tok} (h : a < t.length) (hs : stepM t a ts = .ok (a1, ts1)) (hr : Reach1 t a1 ts1 b tsb) : Reach1 t a ts b tsb

theorem Reach1.le {t : List UInt8} {a b : Nat} {ts tsb : List Tok} (h : Reach1 t a ts b tsb) : a ≤ b := by
  induction h with
  | refl => omega
  | step h hs _ ih => have := step_on h hs; omega

theorem step_shape {t : List UInt8} {a a1 : Nat} {ts ts1 : List Tok} (h : stepM t a ts = .ok (a1, ts1)) : ts1 = ts ∨ ∃ k, ts1 = ts ++ [⟨k, (t.take a1).drop a, a⟩] := by
  unfold stepM at h
  split at h
  · cases h; exact .inl rfl
  · cases h; exact .inl rfl
  · unfold nameM at h
    split at h
    · cases h
    · have e := addM_ok h; subst e; exact .inr ⟨_, (addM_le h).1⟩
  · unfold numM at h
    split at h
    · cases h
    · have e := addM_ok h; subst e; exact .inr ⟨_, (addM_le h).1⟩
  · unfold symM at h
    split at h
    · have e := addM_ok h; subst e; exact .inr ⟨_, (addM_le h).1⟩
    · cases h
  · cases h
theorem Reach1.pre {t : List UInt8} {a b : Nat} {ts tsb : List Tok} (h : Reach1 t a ts b tsb) : ts <+: tsb := by
  induction h with
  | refl => exact List.prefix_rfl
  | step h hs _ ih =>
    rcases step_shape hs with rfl | ⟨k, rfl⟩
    · exact ih
    · exact (List.prefix_append _ _).trans ih

theorem reach_of_scan {t : List UInt8} : ∀ (m a : Nat) (ts : List Tok), t.length - a ≤ m → a ≤ t.length →
    (∃ tsb, scanW t a ts = .ok (t.length, tsb) ∧ Reach1 t a ts t.length tsb) ∨ ∃ e p tsp, scanW t a ts = .error (e, p) ∧ Reach1 t a ts p tsp ∧ p < t.length ∧ stepM t p tsp = .error (e, p) := by
  intro m
  induction m with
  | zero =>
    intro a ts hm ha
    obtain rfl : a = t.length := by omega
    exact .inl ⟨ts, scanW_end, .refl _ _⟩
  | succ m ih =>
    intro a ts hm ha
    by_cases h : a < t.length
    · rw [scanW_step h]
      cases hs : stepM t a ts with
      | ok r =>
        have e1 := step_on h hs
        have e2 := step_le h hs
        rcases ih r.1 r.2 (by omega) e2 with ⟨tsb, h1, h2⟩ | ⟨e, p, tsp, h1, h2, h3, h4⟩
        · exact .inl ⟨tsb, h1, .step h hs h2⟩
        · exact .inr ⟨e, p, tsp, h1, .step h hs h2, h3, h4⟩
      | error r =>
        obtain ⟨e, p⟩ := r
        obtain ⟨rfl, _⟩ := stepM_err hs
        exact .inr ⟨e, p, ts, rfl, .refl _ _, h, hs⟩
    · obtain rfl : a = t.length := by omega
      exact .inl ⟨ts, scanW_end, .refl _ _⟩
theorem scan_of_reach {t : List UInt8} {a b : Nat} {ts tsb : List Tok} (h : Reach1 t a ts b tsb) : scanW t a ts = scanW t b tsb := by
  induction h with
  | refl => rfl
  | step h hs _ ih => rw [scanW_step h, hs]; exact ih

/-! ### The beginning of a text -/
theorem takeWhile_take {q : UInt8 → Bool} : ∀ (l : List UInt8) (m : Nat), (l.takeWhile q).length ≤ m → ((l.take m).takeWhile q).length = (l.takeWhile q).length
  | [], m, _ => by simp
  | x :: l, 0, h => by simp at h ⊢; cases hq : q x <;> simp_all
  | x :: l, m + 1, h => by
    rw [List.take_succ_cons, List.takeWhile_cons, List.takeWhile_cons] at *
    cases hq : q x with
    | false => simp
    | true => simp [hq] at h ⊢; exact takeWhile_take l m h
theorem whileB_take {q : UInt8 → Bool} {t : List UInt8} {a p : Nat} (h : whileB q t a ≤ p) : whileB q (t.take p) a = whileB q t a := by
  unfold whileB at *
  rw [List.drop_take, takeWhile_take _ _ (by omega)]
theorem addM_take {t : List UInt8} {a n p : Nat} {ts : List Tok} {k : Int} (h : n ≤ p) : addM (t.take p) a ts k n = addM t a ts k n := by
  unfold addM; rw [List.take_take, Nat.min_eq_left h]
theorem getD_take {t : List UInt8} {a p : Nat} (h : a < p) : (t.take p).getD a 0 = t.getD a 0 := by
  simp [List.getD_eq_getElem?_getD, h]
theorem find_same {α : Type} {f g : α → Bool} {l : List α} {y : α} (h : l.find? f = some y) (hy : g y = true) (hg : ∀ z, g z = true → f z = true) : l.find? g = some y := by
  induction l with
  | nil => cases h
  | cons x l ih =>
    rw [List.find?_cons] at h ⊢
    cases hx : f x with
    | true => rw [hx] at h; cases h; rw [hy]
    | false =>
      rw [hx] at h
      have : g x = false := by cases hgx : g x with | false => rfl | true => rw [hg x hgx] at hx; cases hx
      rw [this]; exact ih h
theorem numBad_take {t : List UInt8} {a p : Nat} (hp : p ≤ t.length) (ha : a < p) (hn : whileB isDig t a ≤ p) (h : numBad t a = false) : numBad (t.take p) a = false := by
  unfold numBad at *
  rw [whileB_take hn, getD_take ha]
  rw [Bool.or_eq_false_iff] at h ⊢
  refine ⟨h.1, ?_⟩
  by_cases hlt : whileB isDig t a < p
  · rw [getD_take hlt]
    have h2 := h.2
    rw [decide_eq_true (show whileB isDig t a < t.length by omega)] at h2
    rw [Bool.true_and] at h2
    rw [h2]; simp
  · rw [decide_eq_false (by simp; omega)]; rfl
theorem step_take {t : List UInt8} {a a1 p : Nat} {ts ts1 : List Tok} (hp : p ≤ t.length) (hl : a < t.length) (hs : stepM t a ts = .ok (a1, ts1)) (h1 : a1 ≤ p) : stepM (t.take p) a ts = .ok (a1, ts1) := by
  have hon := step_on hl hs
  have hap : a < p := by omega
  unfold stepM at hs ⊢
  rw [getD_take hap]
  split at hs
  · exact hs
  · cases hs
    simp only [commM]
    rw [whileB_take h1]
  · unfold nameM at hs ⊢
    split at hs
    · cases hs
    · have e := addM_ok hs
      subst e
      rw [whileB_take h1, if_neg (by assumption), addM_take h1]; exact hs
  · unfold numM at hs ⊢
    split at hs
    · cases hs
    · rename_i hb
      have e := addM_ok hs
      subst e
      rw [whileB_take h1, if_neg (by rw [numBad_take hp hap h1 (by simpa using hb)]; simp), addM_take h1]; exact hs
  · unfold symM at hs ⊢
    split at hs
    · rename_i y hy
      have e := addM_ok hs
      have hpy := (hasPre_iff _ _).1 (List.find?_some hy)
      have hf : symsL.find? (hasPre ((t.take p).drop a)) = some y := by
        refine find_same hy ((hasPre_iff _ _).2 ?_) fun z hz => (hasPre_iff _ _).2 ?_
        · rw [List.drop_take]
          exact List.prefix_of_prefix_length_le hpy (List.take_prefix _ _) (by have := hpy.length_le; simp at this ⊢; omega) |> fun h => h
        · have := (hasPre_iff _ _).1 hz
          rw [List.drop_take] at this
          exact this.trans (List.take_prefix _ _)
      rw [hf]
      simp only
      rw [addM_take (by omega)]; exact hs
    · cases hs
  · cases hs
theorem Reach1.take {t : List UInt8} {a b p : Nat} {ts tsb : List Tok} (h : Reach1 t a ts b tsb) (hb : b ≤ p) (hp : p ≤ t.length) : Reach1 (t.take p) a ts b tsb := by
  induction h with
  | refl => exact .refl _ _
  | step h hs hr ih =>
    have := hr.le
    have h2 := step_on h hs
    exact .step (by simp; omega) (step_take hp h hs (by omega)) (ih hb)

/-- where the scan is after token k -/
theorem Reach1.tok {t : List UInt8} {a b : Nat} {ts tsb : List Tok} (h : Reach1 t a ts b tsb) (k : Nat) (hk : ts.length ≤ k) (hk2 : k < tsb.length) :
    ∃ x, tsb[k]? = some x ∧ Reach1 t a ts (x.loc + x.text.length) (tsb.take (k + 1)) ∧ x.loc + x.text.length ≤ b := by
  induction h with
  | refl => omega
  | step h hs hr ih =>
    rename_i a a1 b ts ts1 tsb
    have h1 := step_le h hs
    have h0 := step_on h hs
    rcases step_shape hs with rfl | ⟨kd, rfl⟩
    · obtain ⟨x, h1, h2, h3⟩ := ih hk hk2
      exact ⟨x, h1, .step h hs h2, h3⟩
    · by_cases hkk : k = ts.length
      · subst hkk
        obtain ⟨r, hr'⟩ := hr.pre
        have hlen : a + ((t.take a1).drop a).length = a1 := by simp; omega
        refine ⟨⟨kd, (t.take a1).drop a, a⟩, by rw [← hr']; simp, ?_, by rw [hlen]; exact hr.le⟩
        rw [hlen]
        have ht : tsb.take (ts.length + 1) = ts ++ [⟨kd, (t.take a1).drop a, a⟩] := by
          rw [← hr']
          exact List.take_left' (by simp)
        rw [ht]
        exact .step h hs (.refl _ _)
      · obtain ⟨x, h1, h2, h3⟩ := ih (by simp; omega) hk2
        exact ⟨x, h1, .step h hs h2, h3⟩

theorem lexM_ok {t : List UInt8} {ts : List Tok} (h : lexM t = .ok ts) : t.length ≤ 6000 ∧ Reach1 t 0 [] t.length ts := by
  have hl : t.length ≤ 6000 := by
    unfold lexM at h
    split at h
    · cases h
    · omega
  refine ⟨hl, ?_⟩
  rw [lexM_of hl] at h
  rcases reach_of_scan (t := t) t.length 0 [] (by omega) (by omega) with ⟨tsb, h1, h2⟩ | ⟨e, p, tsp, h1, _⟩
  · rw [h1] at h; cases h; exact h2
  · rw [h1] at h; cases h
theorem lexM_reach {t : List UInt8} {ts : List Tok} (hl : t.length ≤ 6000) (h : Reach1 t 0 [] t.length ts) : lexM t = .ok ts := by
  rw [lexM_of hl, scan_of_reach h, scanW_end]
theorem err_before {t : List UInt8} {e : Int} {p : Nat} (hl : t.length ≤ 6000) (h : lexM t = .error (e, p)) : p < t.length ∧ ∃ ts, lexM (t.take p) = .ok ts := by
  rw [lexM_of hl] at h
  rcases reach_of_scan (t := t) t.length 0 [] (by omega) (by omega) with ⟨tsb, h1, _⟩ | ⟨e', p', tsp, h1, h2, h3, _⟩
  · rw [h1] at h; cases h
  · rw [h1] at h
    cases h
    refine ⟨h3, tsp, lexM_reach (t := t.take p) (by simp; omega) ?_⟩
    have := h2.take (p := p) (Nat.le_refl _) (by omega)
    have e : (t.take p).length = p := by simp; omega
    rw [e]; exact this
theorem ok_upto {t : List UInt8} {ts : List Tok} {k : Nat} (h : lexM t = .ok ts) (hk : k < ts.length) : ∃ x, ts[k]? = some x ∧ x.loc + x.text.length ≤ t.length ∧ lexM (t.take (x.loc + x.text.length)) = .ok (ts.take (k + 1)) := by
  obtain ⟨hl, hr⟩ := lexM_ok h
  obtain ⟨x, h1, h2, h3⟩ := hr.tok k (by simp) hk
  refine ⟨x, h1, h3, lexM_reach (t := t.take (x.loc + x.text.length)) (by simp; omega) ?_⟩
  have e : (t.take (x.loc + x.text.length)).length = x.loc + x.text.length := by simp; omega
  rw [e]
  exact h2.take (Nat.le_refl _) h3
end Go.Proofs.YtmnhnbpnjepkbaaGreatDoor

namespace Go.Proofs.YtmnhnbpnjepkbaaGreatDoor
set_option linter.unusedVariables false

def shT (m : Nat) (x : Tok) : Tok := ⟨x.kind, x.text, x.loc + m⟩

theorem drop_sh (v u : List UInt8) (a : Nat) : (v ++ u).drop (v.length + a) = u.drop a := by
  rw [List.drop_append]; simp
theorem whileB_sh {q : UInt8 → Bool} (v u : List UInt8) (a : Nat) : whileB q (v ++ u) (v.length + a) = v.length + whileB q u a := by
  unfold whileB; rw [drop_sh]; omega
theorem take_sh (v u : List UInt8) (a n : Nat) : ((v ++ u).take (v.length + n)).drop (v.length + a) = (u.take n).drop a := by
  rw [List.take_append]
  rw [List.take_of_length_le (by omega), show v.length + n - v.length = n by omega, drop_sh]
theorem getD_sh (v u : List UInt8) (a : Nat) : (v ++ u).getD (v.length + a) 0 = u.getD a 0 := by
  simp [List.getD_eq_getElem?_getD, List.getElem?_append_right]
theorem addM_sh {v u : List UInt8} {a n a1 : Nat} {ts ts' ts1 : List Tok} {k : Int} (h : addM u a ts' k n = .ok (a1, ts1)) (hc : ts.length + ts1.length ≤ 2000) :
    addM (v ++ u) (v.length + a) (ts ++ ts'.map (shT v.length)) k (v.length + n) = .ok (v.length + a1, ts ++ ts1.map (shT v.length)) := by
  have e := addM_ok h
  obtain ⟨e1, e2⟩ := addM_le h
  subst e
  subst e1
  unfold addM
  rw [if_neg (by simp at hc ⊢; omega), take_sh]
  simp [shT, Nat.add_comm]
theorem numBad_sh (v u : List UInt8) (a : Nat) : numBad (v ++ u) (v.length + a) = numBad u a := by
  unfold numBad
  rw [whileB_sh, getD_sh, getD_sh]
  rw [show v.length + whileB isDig u a - (v.length + a) = whileB isDig u a - a by omega]
  have e : decide (v.length + whileB isDig u a < (v ++ u).length) = decide (whileB isDig u a < u.length) := by simp
  rw [e]
theorem step_sh {v u : List UInt8} {a a1 : Nat} {ts ts' ts1 : List Tok} (h : stepM u a ts' = .ok (a1, ts1)) (hc : ts.length + ts1.length ≤ 2000) :
    stepM (v ++ u) (v.length + a) (ts ++ ts'.map (shT v.length)) = .ok (v.length + a1, ts ++ ts1.map (shT v.length)) := by
  unfold stepM at h ⊢
  rw [getD_sh]
  split at h
  · cases h; simp [blankM]; omega
  · cases h; simp [commM, whileB_sh]
  · unfold nameM at h ⊢
    split at h
    · cases h
    · rw [show v.length + a + 1 = v.length + (a + 1) by omega, whileB_sh, if_neg (by omega)]
      exact addM_sh h hc
  · unfold numM at h ⊢
    split at h
    · cases h
    · rw [numBad_sh, if_neg (by assumption), whileB_sh]
      exact addM_sh h hc
  · unfold symM at h ⊢
    rw [drop_sh]
    split at h
    · rename_i y hy
      rw [show v.length + a + y.length = v.length + (a + y.length) by omega]
      exact addM_sh h hc
    · cases h
  · cases h
theorem Reach1.shift {u : List UInt8} {a b : Nat} {ts' tsb : List Tok} (v : List UInt8) (ts : List Tok) (h : Reach1 u a ts' b tsb) (hc : ts.length + tsb.length ≤ 2000) :
    Reach1 (v ++ u) (v.length + a) (ts ++ ts'.map (shT v.length)) (v.length + b) (ts ++ tsb.map (shT v.length)) := by
  induction h with
  | refl => exact .refl _ _
  | step h hs hr ih =>
    have := hr.pre.length_le
    exact .step (by simp; omega) (step_sh hs (by omega)) (ih hc)
theorem Reach1.app {t : List UInt8} {a b : Nat} {ts tsb : List Tok} (u : List UInt8) (h : Reach1 t a ts b tsb) : Reach1 (t ++ 10 :: u) a ts b tsb := by
  induction h with
  | refl => exact .refl _ _
  | step h hs hr ih => exact .step (by simp; omega) (by rw [step_app t u _ _ h]; exact hs) ih
theorem Reach1.trans {t : List UInt8} {a b c : Nat} {ts tsb tsc : List Tok} (h : Reach1 t a ts b tsb) (h' : Reach1 t b tsb c tsc) : Reach1 t a ts c tsc := by
  induction h with
  | refl => exact h'
  | step h hs hr ih => exact .step h hs (ih h')

theorem concat_law {s t : List UInt8} {A B : List Tok} (hs : s.length ≤ 2000) (ht : t.length ≤ 2000) (hA : lexM s = .ok A) (hB : lexM t = .ok B) (hc : A.length + B.length ≤ 2000) :
    lexM (s ++ 10 :: t) = .ok (A ++ B.map (shT (s.length + 1))) := by
  refine lexM_reach (t := s ++ 10 :: t) (by simp; omega) ?_
  have h1 := (lexM_ok hA).2.app t
  have h2 : Reach1 (s ++ 10 :: t) s.length A (s.length + 1) A := by
    refine .step (by simp) ?_ (.refl _ _)
    unfold stepM
    have e : (s ++ 10 :: t).getD s.length 0 = 10 := by simp [List.getD_eq_getElem?_getD]
    rw [e]
    rfl
  have h3 := (lexM_ok hB).2.shift (s ++ [10]) A hc
  simp only [List.length_append, List.length_cons, List.length_nil, List.map_nil, List.append_nil, List.append_assoc, List.cons_append, List.nil_append, Nat.add_zero, Nat.zero_add] at h3
  have e : (s ++ 10 :: t).length = s.length + 1 + t.length := by simp; omega
  rw [e]
  exact (h1.trans h2).trans h3
end Go.Proofs.YtmnhnbpnjepkbaaGreatDoor
