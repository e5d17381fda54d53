/- The parser: a whole text. The laws' helpers: parsed, alike, parses, place. Conditions: none. -/
import Derived.Test.YtmnhnbpnjepkbaaGreatDoorK1A11

namespace Go.Proofs.YtmnhnbpnjepkbaaGreatDoor
open Go.RowKit
set_option linter.unusedVariables false

/-- the answer to an error of a run -/
def errOf {α : Type} (n : Nat) : Ans α → Except (Int × Nat) α
  | .ok y => .ok y.1
  | .error [] => .error (51, n)
  | .error (x :: _) => .error (50, x.loc)
/-- what a text is parsed to -/
def PRes (nt : NT) (t : List UInt8) (r : Except (Int × Nat) nt.T) : Prop :=
  match lexM t with
  | .error e => r = .error e
  | .ok ts => ∃ a : Ans nt.T, Run (whole nt) ts a ∧ r = errOf t.length a
theorem PRes.det {nt : NT} {t : List UInt8} {r r' : Except (Int × Nat) nt.T} (h : PRes nt t r) (h' : PRes nt t r') : r = r' := by
  unfold PRes at h h'
  cases hm : lexM t with
  | error e => rw [hm] at h h'; rw [h, h']
  | ok ts =>
    rw [hm] at h h'
    obtain ⟨a, h1, rfl⟩ := h
    obtain ⟨b, h2, rfl⟩ := h'
    rw [h1.det h2]
/-- what a parsing function answers -/
def RunAns {α : Type} (R : Rp α) (val : List Value → Value) (zero : List Value) (P : Except (Int × Nat) α → Prop) (w w' : World) (v : Value) : Prop :=
  ∃ c e q, v = .tuple #[val c, .int .i64 e, .int .i64 q] ∧ Ext w w' ∧ ((∃ a, P (.ok a) ∧ e = 0 ∧ q = -1 ∧ R.fits (fresh w) w' c a) ∨ ∃ p : Nat, P (.error (e, p)) ∧ e ≠ 0 ∧ q = (p : Int) ∧ c = zero)

theorem errV_ne {α : Type} (n : Nat) (l : List Tok) : ∃ e p, errV n l = failP e p ∧ (errOf n (.error l : Ans α)) = .error (e, p) ∧ e ≠ 0 := by
  cases l with
  | nil => exact ⟨51, n, rfl, rfl, by decide⟩
  | cons x l => exact ⟨50, x.loc, rfl, rfl, by decide⟩

/-- what Lex answers, read, in blocks of its own -/
theorem lexF (w : World) (t : List UInt8) (hG : GV w) : Fn Tryz.prog 34 [strV t] w fun v w' => ∃ a c e q ts, v = .tuple #[.slice a ts.length c, .int .i64 e, .int .i64 q] ∧ Ext w w' ∧ Sl (fun b => w.heap.size ≤ b ∧ b < w'.heap.size) w' (.slice a ts.length c) ts.length (toksC ts) ∧
    ((lexM t = .ok ts ∧ e = 0 ∧ q = -1) ∨ ∃ p : Nat, lexM t = .error (e, p) ∧ e ≠ 0 ∧ q = (p : Int) ∧ ts = []) := by
  refine (lex_ok w t hG).mono ?_
  rintro v w' ⟨tv, e, q, rfl, k, h⟩
  unfold LexAns at h
  cases hm : lexM t with
  | ok ts =>
    rw [hm] at h
    obtain ⟨rfl, rfl, ho⟩ := h
    have hs := Sl_of_own (ok := fun b => w.heap.size ≤ b ∧ b < w'.heap.size) ho fun g hg => own_in ho hg
    obtain ⟨a, c, rfl, hr⟩ := id hs
    exact ⟨a, c, 0, -1, ts, rfl, k, hs, .inl ⟨rfl, rfl, rfl⟩⟩
  | error r =>
    obtain ⟨e', p⟩ := r
    rw [hm] at h
    obtain ⟨rfl, rfl, rfl⟩ := h
    exact ⟨none, 0, e, p, [], rfl, k, ⟨_, _, rfl, by simp, by omega, fun _ => rfl, .inl rfl⟩, .inr ⟨p, rfl, lexM_err hm, rfl, rfl⟩⟩
theorem res_cellA {P : Program} {f : Fr} {w : World} {T n b t : Nat} {L : List Value} {l : List ResultVar} {k : List Value → Prop} [hT : AggT P T n] (ha : f t = .pointer (some ⟨b, 0, none⟩)) (hl : L.length = n) (hc : Cells w b 0 L) (h : resVals P l f w fun r => k (.agg L.toArray :: r)) : resVals P (.cell t T :: l) f w k :=
  ⟨_, _, ha, run_loadVar_agg hT hl hc, h⟩
theorem run_F (w : World) (t : List UInt8) (hG : GK w) (hI : ∀ E N, ItemR fmlR aggV E N 41 (body .formula)) : Fn Tryz.prog 40 [strV t, .func (.func 41) #[] #[]] w (fun v w' => RunAns fmlR aggV [.int .i64 0, strV [], .int .i64 0, .int .i64 0, .slice none 0 0] (PRes .formula t) w w' v) := by
  have hgs := hG.gv.size
  refine fn_of_wcD Tryz.func40 rfl Tryz.ntmps40 (Nat.le_of_ble_eq_true rfl) (by kernel_rfl) ?_
  repeat' first | refine nx ?_ | refine C_cond_t rfl ?_ | refine C_cond_f rfl ?_ | refine Q_block_on rfl ?_
  (refine C_region ?_)
  -- at operation 0: <dst=(some 4) op=(alloc 39) type=0 guard=none>
  refine W_alloc (fun w1 n1 => ?_)
  refine W_alloc (fun w2 n2 => ?_)
  refine W_alloc (fun w3 n3 => ?_)
  have z1 := n1.size
  have z2 := n2.size
  have z3 := n3.size
  have b1 : Blk w3 w.heap.size 39 [.int .i64 0, strV [], .int .i64 0, .int .i64 0, .slice none 0 0] := (n1.blk.keep n2.keep (by simp)).keep n3.keep (by simp)
  have b2 : Blk w3 w1.heap.size 25 [.int .i64 0] := n2.blk.keep n3.keep (by simp)
  have b3 : Blk w3 w2.heap.size 3 [.int .i64 0] := n3.blk
  have k3 : Ext w w3 := (n1.keep.trans n2.keep).trans n3.keep
  refine W_nil ?_
  repeat' first | refine nx ?_ | refine C_cond_t rfl ?_ | refine C_cond_f rfl ?_ | refine Q_block_on rfl ?_
  (refine C_region ?_
   <;> (first | refine M_str rfl ?_ | refine W_move ?_))
  -- at operation 1: <dst=(some 11) op=(call <callee=(value (func 34)) args=[(tmp 10)] argTypes=[9]>) type=26 guard=none>
  refine W_call (lexF w3 t (hG.gv.ext k3)) rfl ?_
  rintro v w4 ⟨ta, tc, e, q, ts, rfl, k4, hT, hm⟩
  have z4 := k4.size
  have c1 := b1.keep k4 (by simp)
  have c2 := b2.keep k4 (by simp)
  have c3 := b3.keep k4 (by simp)
  ((first | refine M_tuple rfl ?_ | refine W_move ?_)
   <;> refine W_extract rfl rfl ?_
   <;> refine W_extract rfl rfl ?_
   <;> refine W_extract rfl rfl ?_
   <;> (refine M_assign ?_; (first | refine M_slice rfl ?_ | refine W_move ?_)))
  -- at operation 7: <dst=none op=(store 25 (tmp 5) (tmp 13)) type=0 guard=none>
  refine W_store rfl rfl rfl c2 (by simp) (fun w5 p5 => ?_)
  refine W_store rfl rfl rfl (c3.keep p5.keep (by simp; omega)) (by simp) (fun w6 p6 => ?_)
  have z5 := p5.size
  have z6 := p6.size
  have d1 : Blk w6 w.heap.size 39 [.int .i64 0, strV [], .int .i64 0, .int .i64 0, .slice none 0 0] := (c1.keep p5.keep (by simp; omega)).keep p6.keep (by simp; omega)
  have d2 : Blk w6 w1.heap.size 25 [.int .i64 e] := p5.blk.keep p6.keep (by simp; omega)
  have d3 : Blk w6 w2.heap.size 3 [.int .i64 q] := p6.blk
  have k6 : Ext w w6 := ((k3.trans k4).keep p5.keep (by simp; omega)).keep p6.keep (by simp; omega)
  refine W_nil ?_
  repeat' first | refine nx ?_ | refine C_cond_t rfl ?_ | refine C_cond_f rfl ?_ | refine Q_block_on rfl ?_
  rcases hm with ⟨hm, rfl, rfl⟩ | ⟨p, hm, he, rfl, rfl⟩
  · obtain ⟨ht6, ht2, hwf⟩ := lexM_toks hm
    (refine C_region ?_
     <;> (first | refine W_load rfl (Blk.cell (by assumption) (by rfl)) ?_ | refine W_load rfl (by assumption) ?_)
     <;> (refine W_neq rfl rfl (fun hc => ?_) (fun hc => ?_) <;> try (exfalso; omega))
     <;> refine W_nil ?_)
    repeat' first | refine nx ?_ | refine C_cond_t rfl ?_ | refine C_cond_f rfl ?_ | refine Q_block_on rfl ?_
    (refine C_region ?_
     <;> refine W_makeFunc rfl rfl ?_)
    -- at operation 1: <dst=none op=(defer <callee=(value (tmp 20)) args=[] argTypes=[]>) type=0 guard=none>
    refine W_defer (v1 := []) (v2 := [pt w.heap.size, pt w1.heap.size, pt w2.heap.size]) (vs := []) rfl rfl ?_
    refine W_nil ?_
    repeat' first | refine nx ?_ | refine C_cond_t rfl ?_ | refine C_cond_f rfl ?_ | refine Q_block_on rfl ?_
    (refine C_region ?_
     <;> (first | refine M_slice rfl ?_ | refine W_move ?_)
     <;> (first | refine M_str rfl ?_ | refine W_move ?_)
     <;> refine W_slen rfl ?_)
    -- at operation 3: <dst=(some 24) op=(call <callee=(value (func 60)) args=[] argTypes=[]>) type=109 guard=none>
    refine W_call (prefixes_ok w6) rfl ?_
    rintro v w7 ⟨mp, rfl, hmp, k7, hpre⟩
    refine W_call (infixes_ok w7) rfl ?_
    rintro v w8 ⟨mi, rfl, hmi, k8, hinf⟩
    have hpl := hpre.lt
    have hil := hinf.lt
    have zk7 := k7.size
    have zk8 := k8.size
    (refine W_build (by rfl) (by rfl) ?_)
    -- at operation 6: <dst=(some 27) op=(box 112 (tmp 26)) type=88 guard=none>
    refine W_box (L := [.slice ta ts.length tc, .int .i64 (t.length : Int), .map (some mp), .map (some mi)]) rfl (fun w9 n9 => ?_)
    have z9 := n9.size
    have k9 : Ext w w9 := ((k6.trans k7).trans k8).trans n9.keep
    ((refine M_assign ?_; (first | refine M_ptr rfl ?_ | refine W_move ?_))
     <;> refine W_nil ?_)
    repeat' first | refine nx ?_ | refine C_cond_t rfl ?_ | refine C_cond_f rfl ?_ | refine Q_block_on rfl ?_
    have hT9 := ((((hT.keep p5.keep (fun b hb => by simp; omega)).keep p6.keep (fun b hb => by simp; omega)).ext k7).ext k8).ext n9.keep
    have f1 := (((d1.keep k7 (by simp)).keep k8 (by simp)).keep n9.keep (by simp))
    have f2 := (((d2.keep k7 (by simp)).keep k8 (by simp)).keep n9.keep (by simp))
    have f3 := (((d3.keep k7 (by simp)).keep k8 (by simp)).keep n9.keep (by simp))
    have hP : PSt w9 ⟨w3.heap.size, w8.heap.size, t.length, mp, mi⟩ ts := ⟨⟨ta, tc, n9.blk, hT9.mono fun b hb => by have := hb.1; have := hb.2; exact ⟨by show w3.heap.size ≤ b; omega, by show b < w8.heap.size; omega⟩⟩, (hpre.keep k8 (by simp)).keep n9.keep (by simp), hinf.keep n9.keep (by simp), ⟨by show mp < w8.heap.size; omega, hil⟩, hwf, ht2⟩
    have hW : PW w9 ⟨w3.heap.size, w8.heap.size, t.length, mp, mi⟩ ts := ⟨hP, hG.ext k9, by show 8 ≤ w8.heap.size; omega⟩
    have hpr : ∀ {r : Ans (NT.T .formula)}, Run (whole .formula) ts r → PRes .formula t (errOf t.length r) := fun {r} hr => by unfold PRes; rw [hm]; exact ⟨r, hr, rfl⟩
    have hpan : ∀ (f : Fr) (w10 : World) (l : List Tok), Run (whole .formula) ts (.error l) → Keep [w8.heap.size, w.heap.size] w9 w10 → (∃ L1, Blk w10 w.heap.size 39 L1 ∧ L1.length = 5) → f 4 = pt w.heap.size → f 5 = pt w1.heap.size → f 6 = pt w2.heap.size →
        finD Tryz.prog Tryz.f40 (fun v w' => RunAns fmlR aggV [.int .i64 0, strV [], .int .i64 0, .int .i64 0, .slice none 0 0] (PRes .formula t) w w' v) (fun _ _ => False) (.panic (errV t.length l)) f [{ target := .fn (.func 59) #[pt w.heap.size, pt w1.heap.size, pt w2.heap.size], args := #[] }] w10 := by
      rintro f w10 l hr hk ⟨L1, g1, hL1⟩ e4 e5 e6
      obtain ⟨e, p, he1, he2, he0⟩ := errV_ne (α := NT.T .formula) t.length l
      rw [he1]
      refine finD_pan_def (a := []) (c := [pt w.heap.size, pt w1.heap.size, pt w2.heap.size]) (recPan_F w10 _ _ _ L1 _ _ e (p : Int) g1 hL1 (f2.keep hk (by simp; omega)) (f3.keep hk (by simp; omega)) (by omega) (by omega) (by omega)) fun w11 h11 => ?_
      obtain ⟨k11, g1', g2', g3'⟩ := h11
      refine res_cellA e4 rfl g1'.cells (res_cell e5 (g2'.cell rfl) (res_cell e6 (g3'.cell rfl) ?_))
      have hp := hpr hr
      rw [he2] at hp
      exact ⟨[.int .i64 0, strV [], .int .i64 0, .int .i64 0, .slice none 0 0], e, p, rfl, (k9.keep hk (by simp; omega)).keep k11 (by simp; omega), .inr ⟨p, hp, he0, rfl, rfl⟩⟩
    (refine C_region ?_
     <;> (first | refine M_func rfl ?_ | refine W_move ?_)
     <;> (first | refine M_ptr rfl ?_ | refine W_move ?_))
    -- at operation 2: <dst=(some 30) op=(call <callee=(value (tmp 28)) args=[(tmp 29)] argTypes=[88]>) type=39 guard=none>
    refine W_callvP (v1 := []) (v2 := []) (vs := [pt w8.heap.size]) rfl (hI ⟨w3.heap.size, w8.heap.size, t.length, mp, mi⟩ ts.length w9 ts hW (Nat.le_refl _)) rfl ?_ ?_
    rotate_left
    · rintro ch w10 ⟨k10, l, r10, rfl⟩
      repeat' first | refine nx ?_ | refine C_cond_t rfl ?_ | refine C_cond_f rfl ?_ | refine Q_block_on rfl ?_
      exact hpan _ w10 l (Run.callE r10) (k10.mono (by simp)) ⟨_, f1.keep k10 (by simp; omega), rfl⟩ rfl rfl rfl
    rintro v w10 ⟨k10, a, ts', r10, q10, c, rfl, fit⟩
    have hcl : c.length = 5 := Rp.len fmlR fit
    have hco := Rp.one fmlR fit
    have g1 := f1.keep k10 (by simp; omega)
    have g2 := f2.keep k10 (by simp; omega)
    have g3 := f3.keep k10 (by simp; omega)
    have z10 := k10.size
    refine W_store_agg (cs := c) rfl rfl hcl hco g1 (by simp) (fun w11 p11 => ?_)
    have g1' : Blk w11 w.heap.size 39 c := by
      have := p11.blk
      rw [splice_full [.int .i64 0, strV [], .int .i64 0, .int .i64 0, .slice none 0 0] c (by rw [hcl]; rfl)] at this
      exact this
    have g2' := g2.keep p11.keep (by simp; omega)
    have g3' := g3.keep p11.keep (by simp; omega)
    have fit' := Rp.keep fmlR fit p11.keep (fun b hb => by simp [fresh] at hb ⊢; omega)
    have k911 : Keep [w8.heap.size, w.heap.size] w9 w11 := (k10.mono (by simp)).trans (p11.keep.mono (Y := [w8.heap.size, w.heap.size]) (by simp)) (by simp)
    have z11 := p11.size
    have hE : w.heap.size < w8.heap.size := by omega
    obtain ⟨⟨ta', tc', hb10, hs10⟩, hq3, hq4, hq5, hq6, hq7⟩ := id q10
    have hb11 := hb10.keep p11.keep (by simp; omega)
    refine W_nil ?_
    repeat' first | refine nx ?_ | refine C_cond_t rfl ?_ | refine C_cond_f rfl ?_ | refine Q_block_on rfl ?_
    cases ts' with
    | cons x l =>
      have hl : (x :: l).length = l.length + 1 := rfl
      (refine C_region ?_
       <;> (first | refine M_ptr rfl ?_ | refine W_move ?_)
       <;> refine W_nilCheck rfl ?_
       <;> refine W_fieldAddr rfl ?_
       <;> (first | refine W_load rfl (Blk.cell (by assumption) (by rfl)) ?_ | refine W_load rfl (by assumption) ?_)
       <;> refine W_len rfl ?_
       <;> (refine W_gtr rfl rfl (fun hc => ?_) (fun hc => ?_) <;> try (exfalso; omega))
       <;> refine W_nil ?_)
      repeat' first | refine nx ?_ | refine C_cond_t rfl ?_ | refine C_cond_f rfl ?_ | refine Q_block_on rfl ?_
      (refine C_region ?_
       <;> (first | refine M_ptr rfl ?_ | refine W_move ?_))
      -- at operation 1: <dst=(some 38) op=(call <callee=(value (func 62)) args=[(tmp 37)] argTypes=[88]>) type=0 guard=none>
      have q11 : PSt w11 ⟨w3.heap.size, w8.heap.size, t.length, mp, mi⟩ (x :: l) := ⟨⟨ta', tc', hb11, hs10.keep p11.keep (fun b hb => by have : w3.heap.size ≤ b := hb.1; simp; omega)⟩, hq3.keep p11.keep (by simp; omega), hq4.keep p11.keep (by simp; omega), hq5, hq6, hq7⟩
      refine W_callP (wrong_ok ⟨w3.heap.size, w8.heap.size, t.length, mp, mi⟩ w11 (x :: l) q11) rfl (R := fun _ _ => False) ?_ ?_
      · rintro v w2 hh; exact hh.elim
      · rintro ch w2 ⟨rfl, rfl⟩
        repeat' first | refine nx ?_ | refine C_cond_t rfl ?_ | refine C_cond_f rfl ?_ | refine Q_block_on rfl ?_
        exact hpan _ w2 (x :: l) (Run.call r10 (Run.look (Run.fail _))) k911 ⟨_, g1', hcl⟩ rfl rfl rfl
    | nil =>
      have hl : ([] : List Tok).length = 0 := rfl
      (refine C_region ?_
       <;> (first | refine M_ptr rfl ?_ | refine W_move ?_)
       <;> refine W_nilCheck rfl ?_
       <;> refine W_fieldAddr rfl ?_
       <;> (first | refine W_load rfl (Blk.cell (by assumption) (by rfl)) ?_ | refine W_load rfl (by assumption) ?_)
       <;> refine W_len rfl ?_
       <;> (refine W_gtr rfl rfl (fun hc => ?_) (fun hc => ?_) <;> try (exfalso; omega))
       <;> refine W_nil ?_)
      repeat' first | refine nx ?_ | refine C_cond_t rfl ?_ | refine C_cond_f rfl ?_ | refine Q_block_on rfl ?_
      (refine C_region ?_; refine W_load_aggB rfl g1' hcl ?_)
      refine W_store_agg (cs := c) rfl rfl hcl hco g1' (by omega) (fun w12 p12 => ?_)
      have i1 : Blk w12 w.heap.size 39 c := by
        have := p12.blk
        rw [splice_full c c rfl] at this
        exact this
      refine W_store rfl rfl rfl (g2'.keep p12.keep (by simp; omega)) (by simp) (fun w13 p13 => ?_)
      refine W_store rfl rfl rfl ((g3'.keep p12.keep (by simp; omega)).keep p13.keep (by simp; omega)) (by simp) (fun w14 p14 => ?_)
      have z12 := p12.size
      have z13 := p13.size
      have j1 := (i1.keep p13.keep (by simp; omega)).keep p14.keep (by simp; omega)
      have j2 : Blk w14 w1.heap.size 25 [.int .i64 0] := p13.blk.keep p14.keep (by simp; omega)
      have j3 : Blk w14 w2.heap.size 3 [.int .i64 (-1)] := p14.blk
      have k14 : Ext w w14 := (((k9.keep k911 (by simp; omega)).keep p12.keep (by simp)).keep p13.keep (by simp; omega)).keep p14.keep (by simp; omega)
      have fit14 := Rp.keep fmlR (Rp.keep fmlR (Rp.keep fmlR fit' p12.keep (fun b hb => by simp [fresh] at hb ⊢; omega)) p13.keep (fun b hb => by simp [fresh] at hb ⊢; omega)) p14.keep (fun b hb => by simp [fresh] at hb ⊢; omega)
      refine W_nil ?_
      repeat' first | refine nx ?_ | refine C_cond_t rfl ?_ | refine C_cond_f rfl ?_ | refine Q_block_on rfl ?_
      refine finD_ret_def (a := []) (c := [pt w.heap.size, pt w1.heap.size, pt w2.heap.size]) (recRet_F _ _ _ _) fun w15 k15 => ?_
      refine res_cellA rfl hcl (j1.keep k15 (by simp)).cells (res_cell rfl ((j2.keep k15 (by simp)).cell rfl) (res_cell rfl ((j3.keep k15 (by simp)).cell rfl) ?_))
      have hp := hpr (Run.call r10 (Run.look (Run.ret _ _)))
      exact ⟨c, 0, -1, rfl, k14.trans k15, .inl ⟨a, hp, rfl, rfl, Rp.mono fmlR (Rp.ext fmlR fit14 k15) fun b hb => by simp only [fresh] at hb ⊢; omega⟩⟩
  · (refine C_region ?_
     <;> (first | refine W_load rfl (Blk.cell (by assumption) (by rfl)) ?_ | refine W_load rfl (by assumption) ?_)
     <;> (refine W_neq rfl rfl (fun hc => ?_) (fun hc => ?_) <;> try (exfalso; omega))
     <;> refine W_nil ?_)
    repeat' first | refine nx ?_ | refine C_cond_t rfl ?_ | refine C_cond_f rfl ?_ | refine Q_block_on rfl ?_
    refine C_drawN (.read 0 (.read 1 (.read 2 (.alt 3 (.alt 4 (.alt 5 .done .stop) .stop) .stop)))) mixed (by kernel_rfl) (fun wd kd ed => ⟨fun W => Cells W w.heap.size 0 [.int .i64 0, strV [], .int .i64 0, .int .i64 0, .slice none 0 0] ∧ W.cell? ⟨w1.heap.size, 0, none⟩ = some (.int .i64 e) ∧ W.cell? ⟨w2.heap.size, 0, none⟩ = some (.int .i64 (p : Int)), ?_, ?_⟩)
    · exact ⟨(d1.keep kd (by simp)).cells, (d2.keep kd (by simp)).cell rfl, (d3.keep kd (by simp)).cell rfl⟩
    have fc0 : ∀ W : World, (Cells W w.heap.size 0 [.int .i64 0, strV [], .int .i64 0, .int .i64 0, .slice none 0 0] ∧ W.cell? ⟨w1.heap.size, 0, none⟩ = some (.int .i64 e) ∧ W.cell? ⟨w2.heap.size, 0, none⟩ = some (.int .i64 (p : Int))) → Cells W w.heap.size 0 [.int .i64 0, strV [], .int .i64 0, .int .i64 0, .slice none 0 0] := fun W h => h.1
    have fc1 : ∀ W : World, (Cells W w.heap.size 0 [.int .i64 0, strV [], .int .i64 0, .int .i64 0, .slice none 0 0] ∧ W.cell? ⟨w1.heap.size, 0, none⟩ = some (.int .i64 e) ∧ W.cell? ⟨w2.heap.size, 0, none⟩ = some (.int .i64 (p : Int))) → W.cell? ⟨w1.heap.size, 0, none⟩ = some (.int .i64 e) := fun W h => h.2.1
    have fc2 : ∀ W : World, (Cells W w.heap.size 0 [.int .i64 0, strV [], .int .i64 0, .int .i64 0, .slice none 0 0] ∧ W.cell? ⟨w1.heap.size, 0, none⟩ = some (.int .i64 e) ∧ W.cell? ⟨w2.heap.size, 0, none⟩ = some (.int .i64 (p : Int))) → W.cell? ⟨w2.heap.size, 0, none⟩ = some (.int .i64 (p : Int)) := fun W h => h.2.2
    replace d1 := d1.keep kd (by simp)
    replace d2 := d2.keep kd (by simp)
    replace d3 := d3.keep kd (by simp)
    ((apply D_R rfl rfl; (intro W hW; (first | refine W_load rfl (fc0 W hW) ?_ | refine W_load rfl (fc1 W hW) ?_ | refine W_load rfl (fc2 W hW) ?_ | refine W_load_agg rfl (by rfl) (fc0 W hW) ?_ | refine W_load_agg rfl (by rfl) (fc1 W hW) ?_ | refine W_load_agg rfl (by rfl) (fc2 W hW) ?_); exact W_nil ⟨rfl, rfl, rfl⟩))
     <;> (apply D_R rfl rfl; (intro W hW; (first | refine W_load rfl (fc0 W hW) ?_ | refine W_load rfl (fc1 W hW) ?_ | refine W_load rfl (fc2 W hW) ?_ | refine W_load_agg rfl (by rfl) (fc0 W hW) ?_ | refine W_load_agg rfl (by rfl) (fc1 W hW) ?_ | refine W_load_agg rfl (by rfl) (fc2 W hW) ?_); exact W_nil ⟨rfl, rfl, rfl⟩))
     <;> (apply D_R rfl rfl; (intro W hW; (first | refine W_load rfl (fc0 W hW) ?_ | refine W_load rfl (fc1 W hW) ?_ | refine W_load rfl (fc2 W hW) ?_ | refine W_load_agg rfl (by rfl) (fc0 W hW) ?_ | refine W_load_agg rfl (by rfl) (fc1 W hW) ?_ | refine W_load_agg rfl (by rfl) (fc2 W hW) ?_); exact W_nil ⟨rfl, rfl, rfl⟩)))
    -- at place 3, operation 3: <dst=none op=(store 39 (tmp 4) (tmp 17)) type=0 guard=none>
    refine D_E rfl ?_
    refine W_store_agg (cs := [.int .i64 0, strV [], .int .i64 0, .int .i64 0, .slice none 0 0]) rfl rfl rfl (oneC_all rfl) d1 (by simp) (fun wa pa => ?_)
    have a1 : Blk wa w.heap.size 39 [.int .i64 0, strV [], .int .i64 0, .int .i64 0, .slice none 0 0] := pa.blk
    have a2 := d2.keep pa.keep (by simp; omega)
    have a3 := d3.keep pa.keep (by simp; omega)
    refine W_nil ⟨_, fun _ h => h, ⟨a1.cells, a2.cell rfl, a3.cell rfl⟩, ?_⟩
    refine D_E rfl ?_
    refine W_store rfl rfl rfl a2 (by simp) (fun wb pb => ?_)
    have b1' := a1.keep pb.keep (by simp; omega)
    have b2' : Blk wb w1.heap.size 25 [.int .i64 e] := pb.blk
    have b3' := a3.keep pb.keep (by simp; omega)
    refine W_nil ⟨_, fun _ h => h, ⟨b1'.cells, b2'.cell rfl, b3'.cell rfl⟩, ?_⟩
    refine D_E rfl ?_
    refine W_store rfl rfl rfl b3' (by simp) (fun wc pc => ?_)
    have c1' := b1'.keep pc.keep (by simp; omega)
    have c2' := b2'.keep pc.keep (by simp; omega)
    have c3' : Blk wc w2.heap.size 3 [.int .i64 (p : Int)] := pc.blk
    refine W_nil ⟨_, fun _ h => h, ⟨c1'.cells, c2'.cell rfl, c3'.cell rfl⟩, ?_⟩
    refine D_nil ?_
    repeat' first | refine nx ?_ | refine C_cond_t rfl ?_ | refine C_cond_f rfl ?_ | refine Q_block_on rfl ?_
    refine finD_ret_nil (res_cellA rfl rfl c1'.cells (res_cell rfl (c2'.cell rfl) (res_cell rfl (c3'.cell rfl) ?_)))
    refine ⟨[.int .i64 0, strV [], .int .i64 0, .int .i64 0, .slice none 0 0], e, p, rfl, (((k6.trans kd).keep pa.keep (by simp)).keep pb.keep (by simp; omega)).keep pc.keep (by simp; omega), .inr ⟨p, ?_, he, rfl, rfl⟩⟩
    unfold PRes
    rw [hm]
theorem run_S (w : World) (t : List UInt8) (hG : GK w) (hI : ∀ E N, ItemR spcR aggV E N 43 (body .spec)) : Fn Tryz.prog 42 [strV t, .func (.func 43) #[] #[]] w (fun v w' => RunAns spcR aggV [.slice none 0 0, .slice none 0 0] (PRes .spec t) w w' v) := by
  have hgs := hG.gv.size
  refine fn_of_wcD Tryz.func42 rfl Tryz.ntmps42 (Nat.le_of_ble_eq_true rfl) (by kernel_rfl) ?_
  repeat' first | refine nx ?_ | refine C_cond_t rfl ?_ | refine C_cond_f rfl ?_ | refine Q_block_on rfl ?_
  (refine C_region ?_)
  -- at operation 0: <dst=(some 4) op=(alloc 36) type=0 guard=none>
  refine W_alloc (fun w1 n1 => ?_)
  refine W_alloc (fun w2 n2 => ?_)
  refine W_alloc (fun w3 n3 => ?_)
  have z1 := n1.size
  have z2 := n2.size
  have z3 := n3.size
  have b1 : Blk w3 w.heap.size 36 [.slice none 0 0, .slice none 0 0] := (n1.blk.keep n2.keep (by simp)).keep n3.keep (by simp)
  have b2 : Blk w3 w1.heap.size 25 [.int .i64 0] := n2.blk.keep n3.keep (by simp)
  have b3 : Blk w3 w2.heap.size 3 [.int .i64 0] := n3.blk
  have k3 : Ext w w3 := (n1.keep.trans n2.keep).trans n3.keep
  refine W_nil ?_
  repeat' first | refine nx ?_ | refine C_cond_t rfl ?_ | refine C_cond_f rfl ?_ | refine Q_block_on rfl ?_
  (refine C_region ?_
   <;> (first | refine M_str rfl ?_ | refine W_move ?_))
  -- at operation 1: <dst=(some 11) op=(call <callee=(value (func 34)) args=[(tmp 10)] argTypes=[9]>) type=26 guard=none>
  refine W_call (lexF w3 t (hG.gv.ext k3)) rfl ?_
  rintro v w4 ⟨ta, tc, e, q, ts, rfl, k4, hT, hm⟩
  have z4 := k4.size
  have c1 := b1.keep k4 (by simp)
  have c2 := b2.keep k4 (by simp)
  have c3 := b3.keep k4 (by simp)
  ((first | refine M_tuple rfl ?_ | refine W_move ?_)
   <;> refine W_extract rfl rfl ?_
   <;> refine W_extract rfl rfl ?_
   <;> refine W_extract rfl rfl ?_
   <;> (refine M_assign ?_; (first | refine M_slice rfl ?_ | refine W_move ?_)))
  -- at operation 7: <dst=none op=(store 25 (tmp 5) (tmp 13)) type=0 guard=none>
  refine W_store rfl rfl rfl c2 (by simp) (fun w5 p5 => ?_)
  refine W_store rfl rfl rfl (c3.keep p5.keep (by simp; omega)) (by simp) (fun w6 p6 => ?_)
  have z5 := p5.size
  have z6 := p6.size
  have d1 : Blk w6 w.heap.size 36 [.slice none 0 0, .slice none 0 0] := (c1.keep p5.keep (by simp; omega)).keep p6.keep (by simp; omega)
  have d2 : Blk w6 w1.heap.size 25 [.int .i64 e] := p5.blk.keep p6.keep (by simp; omega)
  have d3 : Blk w6 w2.heap.size 3 [.int .i64 q] := p6.blk
  have k6 : Ext w w6 := ((k3.trans k4).keep p5.keep (by simp; omega)).keep p6.keep (by simp; omega)
  refine W_nil ?_
  repeat' first | refine nx ?_ | refine C_cond_t rfl ?_ | refine C_cond_f rfl ?_ | refine Q_block_on rfl ?_
  rcases hm with ⟨hm, rfl, rfl⟩ | ⟨p, hm, he, rfl, rfl⟩
  · obtain ⟨ht6, ht2, hwf⟩ := lexM_toks hm
    (refine C_region ?_
     <;> (first | refine W_load rfl (Blk.cell (by assumption) (by rfl)) ?_ | refine W_load rfl (by assumption) ?_)
     <;> (refine W_neq rfl rfl (fun hc => ?_) (fun hc => ?_) <;> try (exfalso; omega))
     <;> refine W_nil ?_)
    repeat' first | refine nx ?_ | refine C_cond_t rfl ?_ | refine C_cond_f rfl ?_ | refine Q_block_on rfl ?_
    (refine C_region ?_
     <;> refine W_makeFunc rfl rfl ?_)
    -- at operation 1: <dst=none op=(defer <callee=(value (tmp 20)) args=[] argTypes=[]>) type=0 guard=none>
    refine W_defer (v1 := []) (v2 := [pt w.heap.size, pt w1.heap.size, pt w2.heap.size]) (vs := []) rfl rfl ?_
    refine W_nil ?_
    repeat' first | refine nx ?_ | refine C_cond_t rfl ?_ | refine C_cond_f rfl ?_ | refine Q_block_on rfl ?_
    (refine C_region ?_
     <;> (first | refine M_slice rfl ?_ | refine W_move ?_)
     <;> (first | refine M_str rfl ?_ | refine W_move ?_)
     <;> refine W_slen rfl ?_)
    -- at operation 3: <dst=(some 24) op=(call <callee=(value (func 60)) args=[] argTypes=[]>) type=109 guard=none>
    refine W_call (prefixes_ok w6) rfl ?_
    rintro v w7 ⟨mp, rfl, hmp, k7, hpre⟩
    refine W_call (infixes_ok w7) rfl ?_
    rintro v w8 ⟨mi, rfl, hmi, k8, hinf⟩
    have hpl := hpre.lt
    have hil := hinf.lt
    have zk7 := k7.size
    have zk8 := k8.size
    (refine W_build (by rfl) (by rfl) ?_)
    -- at operation 6: <dst=(some 27) op=(box 112 (tmp 26)) type=88 guard=none>
    refine W_box (L := [.slice ta ts.length tc, .int .i64 (t.length : Int), .map (some mp), .map (some mi)]) rfl (fun w9 n9 => ?_)
    have z9 := n9.size
    have k9 : Ext w w9 := ((k6.trans k7).trans k8).trans n9.keep
    ((refine M_assign ?_; (first | refine M_ptr rfl ?_ | refine W_move ?_))
     <;> refine W_nil ?_)
    repeat' first | refine nx ?_ | refine C_cond_t rfl ?_ | refine C_cond_f rfl ?_ | refine Q_block_on rfl ?_
    have hT9 := ((((hT.keep p5.keep (fun b hb => by simp; omega)).keep p6.keep (fun b hb => by simp; omega)).ext k7).ext k8).ext n9.keep
    have f1 := (((d1.keep k7 (by simp)).keep k8 (by simp)).keep n9.keep (by simp))
    have f2 := (((d2.keep k7 (by simp)).keep k8 (by simp)).keep n9.keep (by simp))
    have f3 := (((d3.keep k7 (by simp)).keep k8 (by simp)).keep n9.keep (by simp))
    have hP : PSt w9 ⟨w3.heap.size, w8.heap.size, t.length, mp, mi⟩ ts := ⟨⟨ta, tc, n9.blk, hT9.mono fun b hb => by have := hb.1; have := hb.2; exact ⟨by show w3.heap.size ≤ b; omega, by show b < w8.heap.size; omega⟩⟩, (hpre.keep k8 (by simp)).keep n9.keep (by simp), hinf.keep n9.keep (by simp), ⟨by show mp < w8.heap.size; omega, hil⟩, hwf, ht2⟩
    have hW : PW w9 ⟨w3.heap.size, w8.heap.size, t.length, mp, mi⟩ ts := ⟨hP, hG.ext k9, by show 8 ≤ w8.heap.size; omega⟩
    have hpr : ∀ {r : Ans (NT.T .spec)}, Run (whole .spec) ts r → PRes .spec t (errOf t.length r) := fun {r} hr => by unfold PRes; rw [hm]; exact ⟨r, hr, rfl⟩
    have hpan : ∀ (f : Fr) (w10 : World) (l : List Tok), Run (whole .spec) ts (.error l) → Keep [w8.heap.size, w.heap.size] w9 w10 → (∃ L1, Blk w10 w.heap.size 36 L1 ∧ L1.length = 2) → f 4 = pt w.heap.size → f 5 = pt w1.heap.size → f 6 = pt w2.heap.size →
        finD Tryz.prog Tryz.f42 (fun v w' => RunAns spcR aggV [.slice none 0 0, .slice none 0 0] (PRes .spec t) w w' v) (fun _ _ => False) (.panic (errV t.length l)) f [{ target := .fn (.func 65) #[pt w.heap.size, pt w1.heap.size, pt w2.heap.size], args := #[] }] w10 := by
      rintro f w10 l hr hk ⟨L1, g1, hL1⟩ e4 e5 e6
      obtain ⟨e, p, he1, he2, he0⟩ := errV_ne (α := NT.T .spec) t.length l
      rw [he1]
      refine finD_pan_def (a := []) (c := [pt w.heap.size, pt w1.heap.size, pt w2.heap.size]) (recPan_S w10 _ _ _ L1 _ _ e (p : Int) g1 hL1 (f2.keep hk (by simp; omega)) (f3.keep hk (by simp; omega)) (by omega) (by omega) (by omega)) fun w11 h11 => ?_
      obtain ⟨k11, g1', g2', g3'⟩ := h11
      refine res_cellA e4 rfl g1'.cells (res_cell e5 (g2'.cell rfl) (res_cell e6 (g3'.cell rfl) ?_))
      have hp := hpr hr
      rw [he2] at hp
      exact ⟨[.slice none 0 0, .slice none 0 0], e, p, rfl, (k9.keep hk (by simp; omega)).keep k11 (by simp; omega), .inr ⟨p, hp, he0, rfl, rfl⟩⟩
    (refine C_region ?_
     <;> (first | refine M_func rfl ?_ | refine W_move ?_)
     <;> (first | refine M_ptr rfl ?_ | refine W_move ?_))
    -- at operation 2: <dst=(some 30) op=(call <callee=(value (tmp 28)) args=[(tmp 29)] argTypes=[88]>) type=36 guard=none>
    refine W_callvP (v1 := []) (v2 := []) (vs := [pt w8.heap.size]) rfl (hI ⟨w3.heap.size, w8.heap.size, t.length, mp, mi⟩ ts.length w9 ts hW (Nat.le_refl _)) rfl ?_ ?_
    rotate_left
    · rintro ch w10 ⟨k10, l, r10, rfl⟩
      repeat' first | refine nx ?_ | refine C_cond_t rfl ?_ | refine C_cond_f rfl ?_ | refine Q_block_on rfl ?_
      exact hpan _ w10 l (Run.callE r10) (k10.mono (by simp)) ⟨_, f1.keep k10 (by simp; omega), rfl⟩ rfl rfl rfl
    rintro v w10 ⟨k10, a, ts', r10, q10, c, rfl, fit⟩
    have hcl : c.length = 2 := Rp.len spcR fit
    have hco := Rp.one spcR fit
    have g1 := f1.keep k10 (by simp; omega)
    have g2 := f2.keep k10 (by simp; omega)
    have g3 := f3.keep k10 (by simp; omega)
    have z10 := k10.size
    refine W_store_agg (cs := c) rfl rfl hcl hco g1 (by simp) (fun w11 p11 => ?_)
    have g1' : Blk w11 w.heap.size 36 c := by
      have := p11.blk
      rw [splice_full [.slice none 0 0, .slice none 0 0] c (by rw [hcl]; rfl)] at this
      exact this
    have g2' := g2.keep p11.keep (by simp; omega)
    have g3' := g3.keep p11.keep (by simp; omega)
    have fit' := Rp.keep spcR fit p11.keep (fun b hb => by simp [fresh] at hb ⊢; omega)
    have k911 : Keep [w8.heap.size, w.heap.size] w9 w11 := (k10.mono (by simp)).trans (p11.keep.mono (Y := [w8.heap.size, w.heap.size]) (by simp)) (by simp)
    have z11 := p11.size
    have hE : w.heap.size < w8.heap.size := by omega
    obtain ⟨⟨ta', tc', hb10, hs10⟩, hq3, hq4, hq5, hq6, hq7⟩ := id q10
    have hb11 := hb10.keep p11.keep (by simp; omega)
    refine W_nil ?_
    repeat' first | refine nx ?_ | refine C_cond_t rfl ?_ | refine C_cond_f rfl ?_ | refine Q_block_on rfl ?_
    cases ts' with
    | cons x l =>
      have hl : (x :: l).length = l.length + 1 := rfl
      (refine C_region ?_
       <;> (first | refine M_ptr rfl ?_ | refine W_move ?_)
       <;> refine W_nilCheck rfl ?_
       <;> refine W_fieldAddr rfl ?_
       <;> (first | refine W_load rfl (Blk.cell (by assumption) (by rfl)) ?_ | refine W_load rfl (by assumption) ?_)
       <;> refine W_len rfl ?_
       <;> (refine W_gtr rfl rfl (fun hc => ?_) (fun hc => ?_) <;> try (exfalso; omega))
       <;> refine W_nil ?_)
      repeat' first | refine nx ?_ | refine C_cond_t rfl ?_ | refine C_cond_f rfl ?_ | refine Q_block_on rfl ?_
      (refine C_region ?_
       <;> (first | refine M_ptr rfl ?_ | refine W_move ?_))
      -- at operation 1: <dst=(some 38) op=(call <callee=(value (func 62)) args=[(tmp 37)] argTypes=[88]>) type=0 guard=none>
      have q11 : PSt w11 ⟨w3.heap.size, w8.heap.size, t.length, mp, mi⟩ (x :: l) := ⟨⟨ta', tc', hb11, hs10.keep p11.keep (fun b hb => by have : w3.heap.size ≤ b := hb.1; simp; omega)⟩, hq3.keep p11.keep (by simp; omega), hq4.keep p11.keep (by simp; omega), hq5, hq6, hq7⟩
      refine W_callP (wrong_ok ⟨w3.heap.size, w8.heap.size, t.length, mp, mi⟩ w11 (x :: l) q11) rfl (R := fun _ _ => False) ?_ ?_
      · rintro v w2 hh; exact hh.elim
      · rintro ch w2 ⟨rfl, rfl⟩
        repeat' first | refine nx ?_ | refine C_cond_t rfl ?_ | refine C_cond_f rfl ?_ | refine Q_block_on rfl ?_
        exact hpan _ w2 (x :: l) (Run.call r10 (Run.look (Run.fail _))) k911 ⟨_, g1', hcl⟩ rfl rfl rfl
    | nil =>
      have hl : ([] : List Tok).length = 0 := rfl
      (refine C_region ?_
       <;> (first | refine M_ptr rfl ?_ | refine W_move ?_)
       <;> refine W_nilCheck rfl ?_
       <;> refine W_fieldAddr rfl ?_
       <;> (first | refine W_load rfl (Blk.cell (by assumption) (by rfl)) ?_ | refine W_load rfl (by assumption) ?_)
       <;> refine W_len rfl ?_
       <;> (refine W_gtr rfl rfl (fun hc => ?_) (fun hc => ?_) <;> try (exfalso; omega))
       <;> refine W_nil ?_)
      repeat' first | refine nx ?_ | refine C_cond_t rfl ?_ | refine C_cond_f rfl ?_ | refine Q_block_on rfl ?_
      (refine C_region ?_; refine W_load_aggB rfl g1' hcl ?_)
      refine W_store_agg (cs := c) rfl rfl hcl hco g1' (by omega) (fun w12 p12 => ?_)
      have i1 : Blk w12 w.heap.size 36 c := by
        have := p12.blk
        rw [splice_full c c rfl] at this
        exact this
      refine W_store rfl rfl rfl (g2'.keep p12.keep (by simp; omega)) (by simp) (fun w13 p13 => ?_)
      refine W_store rfl rfl rfl ((g3'.keep p12.keep (by simp; omega)).keep p13.keep (by simp; omega)) (by simp) (fun w14 p14 => ?_)
      have z12 := p12.size
      have z13 := p13.size
      have j1 := (i1.keep p13.keep (by simp; omega)).keep p14.keep (by simp; omega)
      have j2 : Blk w14 w1.heap.size 25 [.int .i64 0] := p13.blk.keep p14.keep (by simp; omega)
      have j3 : Blk w14 w2.heap.size 3 [.int .i64 (-1)] := p14.blk
      have k14 : Ext w w14 := (((k9.keep k911 (by simp; omega)).keep p12.keep (by simp)).keep p13.keep (by simp; omega)).keep p14.keep (by simp; omega)
      have fit14 := Rp.keep spcR (Rp.keep spcR (Rp.keep spcR fit' p12.keep (fun b hb => by simp [fresh] at hb ⊢; omega)) p13.keep (fun b hb => by simp [fresh] at hb ⊢; omega)) p14.keep (fun b hb => by simp [fresh] at hb ⊢; omega)
      refine W_nil ?_
      repeat' first | refine nx ?_ | refine C_cond_t rfl ?_ | refine C_cond_f rfl ?_ | refine Q_block_on rfl ?_
      refine finD_ret_def (a := []) (c := [pt w.heap.size, pt w1.heap.size, pt w2.heap.size]) (recRet_S _ _ _ _) fun w15 k15 => ?_
      refine res_cellA rfl hcl (j1.keep k15 (by simp)).cells (res_cell rfl ((j2.keep k15 (by simp)).cell rfl) (res_cell rfl ((j3.keep k15 (by simp)).cell rfl) ?_))
      have hp := hpr (Run.call r10 (Run.look (Run.ret _ _)))
      exact ⟨c, 0, -1, rfl, k14.trans k15, .inl ⟨a, hp, rfl, rfl, Rp.mono spcR (Rp.ext spcR fit14 k15) fun b hb => by simp only [fresh] at hb ⊢; omega⟩⟩
  · (refine C_region ?_
     <;> (first | refine W_load rfl (Blk.cell (by assumption) (by rfl)) ?_ | refine W_load rfl (by assumption) ?_)
     <;> (refine W_neq rfl rfl (fun hc => ?_) (fun hc => ?_) <;> try (exfalso; omega))
     <;> refine W_nil ?_)
    repeat' first | refine nx ?_ | refine C_cond_t rfl ?_ | refine C_cond_f rfl ?_ | refine Q_block_on rfl ?_
    refine C_drawN (.read 0 (.read 1 (.read 2 (.alt 3 (.alt 4 (.alt 5 .done .stop) .stop) .stop)))) mixed (by kernel_rfl) (fun wd kd ed => ⟨fun W => Cells W w.heap.size 0 [.slice none 0 0, .slice none 0 0] ∧ W.cell? ⟨w1.heap.size, 0, none⟩ = some (.int .i64 e) ∧ W.cell? ⟨w2.heap.size, 0, none⟩ = some (.int .i64 (p : Int)), ?_, ?_⟩)
    · exact ⟨(d1.keep kd (by simp)).cells, (d2.keep kd (by simp)).cell rfl, (d3.keep kd (by simp)).cell rfl⟩
    have fc0 : ∀ W : World, (Cells W w.heap.size 0 [.slice none 0 0, .slice none 0 0] ∧ W.cell? ⟨w1.heap.size, 0, none⟩ = some (.int .i64 e) ∧ W.cell? ⟨w2.heap.size, 0, none⟩ = some (.int .i64 (p : Int))) → Cells W w.heap.size 0 [.slice none 0 0, .slice none 0 0] := fun W h => h.1
    have fc1 : ∀ W : World, (Cells W w.heap.size 0 [.slice none 0 0, .slice none 0 0] ∧ W.cell? ⟨w1.heap.size, 0, none⟩ = some (.int .i64 e) ∧ W.cell? ⟨w2.heap.size, 0, none⟩ = some (.int .i64 (p : Int))) → W.cell? ⟨w1.heap.size, 0, none⟩ = some (.int .i64 e) := fun W h => h.2.1
    have fc2 : ∀ W : World, (Cells W w.heap.size 0 [.slice none 0 0, .slice none 0 0] ∧ W.cell? ⟨w1.heap.size, 0, none⟩ = some (.int .i64 e) ∧ W.cell? ⟨w2.heap.size, 0, none⟩ = some (.int .i64 (p : Int))) → W.cell? ⟨w2.heap.size, 0, none⟩ = some (.int .i64 (p : Int)) := fun W h => h.2.2
    replace d1 := d1.keep kd (by simp)
    replace d2 := d2.keep kd (by simp)
    replace d3 := d3.keep kd (by simp)
    ((apply D_R rfl rfl; (intro W hW; (first | refine W_load rfl (fc0 W hW) ?_ | refine W_load rfl (fc1 W hW) ?_ | refine W_load rfl (fc2 W hW) ?_ | refine W_load_agg rfl (by rfl) (fc0 W hW) ?_ | refine W_load_agg rfl (by rfl) (fc1 W hW) ?_ | refine W_load_agg rfl (by rfl) (fc2 W hW) ?_); exact W_nil ⟨rfl, rfl, rfl⟩))
     <;> (apply D_R rfl rfl; (intro W hW; (first | refine W_load rfl (fc0 W hW) ?_ | refine W_load rfl (fc1 W hW) ?_ | refine W_load rfl (fc2 W hW) ?_ | refine W_load_agg rfl (by rfl) (fc0 W hW) ?_ | refine W_load_agg rfl (by rfl) (fc1 W hW) ?_ | refine W_load_agg rfl (by rfl) (fc2 W hW) ?_); exact W_nil ⟨rfl, rfl, rfl⟩))
     <;> (apply D_R rfl rfl; (intro W hW; (first | refine W_load rfl (fc0 W hW) ?_ | refine W_load rfl (fc1 W hW) ?_ | refine W_load rfl (fc2 W hW) ?_ | refine W_load_agg rfl (by rfl) (fc0 W hW) ?_ | refine W_load_agg rfl (by rfl) (fc1 W hW) ?_ | refine W_load_agg rfl (by rfl) (fc2 W hW) ?_); exact W_nil ⟨rfl, rfl, rfl⟩)))
    -- at place 3, operation 3: <dst=none op=(store 36 (tmp 4) (tmp 17)) type=0 guard=none>
    refine D_E rfl ?_
    refine W_store_agg (cs := [.slice none 0 0, .slice none 0 0]) rfl rfl rfl (oneC_all rfl) d1 (by simp) (fun wa pa => ?_)
    have a1 : Blk wa w.heap.size 36 [.slice none 0 0, .slice none 0 0] := pa.blk
    have a2 := d2.keep pa.keep (by simp; omega)
    have a3 := d3.keep pa.keep (by simp; omega)
    refine W_nil ⟨_, fun _ h => h, ⟨a1.cells, a2.cell rfl, a3.cell rfl⟩, ?_⟩
    refine D_E rfl ?_
    refine W_store rfl rfl rfl a2 (by simp) (fun wb pb => ?_)
    have b1' := a1.keep pb.keep (by simp; omega)
    have b2' : Blk wb w1.heap.size 25 [.int .i64 e] := pb.blk
    have b3' := a3.keep pb.keep (by simp; omega)
    refine W_nil ⟨_, fun _ h => h, ⟨b1'.cells, b2'.cell rfl, b3'.cell rfl⟩, ?_⟩
    refine D_E rfl ?_
    refine W_store rfl rfl rfl b3' (by simp) (fun wc pc => ?_)
    have c1' := b1'.keep pc.keep (by simp; omega)
    have c2' := b2'.keep pc.keep (by simp; omega)
    have c3' : Blk wc w2.heap.size 3 [.int .i64 (p : Int)] := pc.blk
    refine W_nil ⟨_, fun _ h => h, ⟨c1'.cells, c2'.cell rfl, c3'.cell rfl⟩, ?_⟩
    refine D_nil ?_
    repeat' first | refine nx ?_ | refine C_cond_t rfl ?_ | refine C_cond_f rfl ?_ | refine Q_block_on rfl ?_
    refine finD_ret_nil (res_cellA rfl rfl c1'.cells (res_cell rfl (c2'.cell rfl) (res_cell rfl (c3'.cell rfl) ?_)))
    refine ⟨[.slice none 0 0, .slice none 0 0], e, p, rfl, (((k6.trans kd).keep pa.keep (by simp)).keep pb.keep (by simp; omega)).keep pc.keep (by simp; omega), .inr ⟨p, ?_, he, rfl, rfl⟩⟩
    unfold PRes
    rw [hm]
theorem run_D (w : World) (t : List UInt8) (hG : GK w) (hI : ∀ E N, ItemR edtR aggV E N 47 (body .edit)) : Fn Tryz.prog 46 [strV t, .func (.func 47) #[] #[]] w (fun v w' => RunAns edtR aggV [.int .i64 0, strV [], strV [], .int .i64 0, .int .i64 0, strV [], .int .i64 0, .int .i64 0, .slice none 0 0] (PRes .edit t) w w' v) := by
  have hgs := hG.gv.size
  refine fn_of_wcD Tryz.func46 rfl Tryz.ntmps46 (Nat.le_of_ble_eq_true rfl) (by kernel_rfl) ?_
  repeat' first | refine nx ?_ | refine C_cond_t rfl ?_ | refine C_cond_f rfl ?_ | refine Q_block_on rfl ?_
  (refine C_region ?_)
  -- at operation 0: <dst=(some 4) op=(alloc 43) type=0 guard=none>
  refine W_alloc (fun w1 n1 => ?_)
  refine W_alloc (fun w2 n2 => ?_)
  refine W_alloc (fun w3 n3 => ?_)
  have z1 := n1.size
  have z2 := n2.size
  have z3 := n3.size
  have b1 : Blk w3 w.heap.size 43 [.int .i64 0, strV [], strV [], .int .i64 0, .int .i64 0, strV [], .int .i64 0, .int .i64 0, .slice none 0 0] := (n1.blk.keep n2.keep (by simp)).keep n3.keep (by simp)
  have b2 : Blk w3 w1.heap.size 25 [.int .i64 0] := n2.blk.keep n3.keep (by simp)
  have b3 : Blk w3 w2.heap.size 3 [.int .i64 0] := n3.blk
  have k3 : Ext w w3 := (n1.keep.trans n2.keep).trans n3.keep
  refine W_nil ?_
  repeat' first | refine nx ?_ | refine C_cond_t rfl ?_ | refine C_cond_f rfl ?_ | refine Q_block_on rfl ?_
  (refine C_region ?_
   <;> (first | refine M_str rfl ?_ | refine W_move ?_))
  -- at operation 1: <dst=(some 11) op=(call <callee=(value (func 34)) args=[(tmp 10)] argTypes=[9]>) type=26 guard=none>
  refine W_call (lexF w3 t (hG.gv.ext k3)) rfl ?_
  rintro v w4 ⟨ta, tc, e, q, ts, rfl, k4, hT, hm⟩
  have z4 := k4.size
  have c1 := b1.keep k4 (by simp)
  have c2 := b2.keep k4 (by simp)
  have c3 := b3.keep k4 (by simp)
  ((first | refine M_tuple rfl ?_ | refine W_move ?_)
   <;> refine W_extract rfl rfl ?_
   <;> refine W_extract rfl rfl ?_
   <;> refine W_extract rfl rfl ?_
   <;> (refine M_assign ?_; (first | refine M_slice rfl ?_ | refine W_move ?_)))
  -- at operation 7: <dst=none op=(store 25 (tmp 5) (tmp 13)) type=0 guard=none>
  refine W_store rfl rfl rfl c2 (by simp) (fun w5 p5 => ?_)
  refine W_store rfl rfl rfl (c3.keep p5.keep (by simp; omega)) (by simp) (fun w6 p6 => ?_)
  have z5 := p5.size
  have z6 := p6.size
  have d1 : Blk w6 w.heap.size 43 [.int .i64 0, strV [], strV [], .int .i64 0, .int .i64 0, strV [], .int .i64 0, .int .i64 0, .slice none 0 0] := (c1.keep p5.keep (by simp; omega)).keep p6.keep (by simp; omega)
  have d2 : Blk w6 w1.heap.size 25 [.int .i64 e] := p5.blk.keep p6.keep (by simp; omega)
  have d3 : Blk w6 w2.heap.size 3 [.int .i64 q] := p6.blk
  have k6 : Ext w w6 := ((k3.trans k4).keep p5.keep (by simp; omega)).keep p6.keep (by simp; omega)
  refine W_nil ?_
  repeat' first | refine nx ?_ | refine C_cond_t rfl ?_ | refine C_cond_f rfl ?_ | refine Q_block_on rfl ?_
  rcases hm with ⟨hm, rfl, rfl⟩ | ⟨p, hm, he, rfl, rfl⟩
  · obtain ⟨ht6, ht2, hwf⟩ := lexM_toks hm
    (refine C_region ?_
     <;> (first | refine W_load rfl (Blk.cell (by assumption) (by rfl)) ?_ | refine W_load rfl (by assumption) ?_)
     <;> (refine W_neq rfl rfl (fun hc => ?_) (fun hc => ?_) <;> try (exfalso; omega))
     <;> refine W_nil ?_)
    repeat' first | refine nx ?_ | refine C_cond_t rfl ?_ | refine C_cond_f rfl ?_ | refine Q_block_on rfl ?_
    (refine C_region ?_
     <;> refine W_makeFunc rfl rfl ?_)
    -- at operation 1: <dst=none op=(defer <callee=(value (tmp 20)) args=[] argTypes=[]>) type=0 guard=none>
    refine W_defer (v1 := []) (v2 := [pt w.heap.size, pt w1.heap.size, pt w2.heap.size]) (vs := []) rfl rfl ?_
    refine W_nil ?_
    repeat' first | refine nx ?_ | refine C_cond_t rfl ?_ | refine C_cond_f rfl ?_ | refine Q_block_on rfl ?_
    (refine C_region ?_
     <;> (first | refine M_slice rfl ?_ | refine W_move ?_)
     <;> (first | refine M_str rfl ?_ | refine W_move ?_)
     <;> refine W_slen rfl ?_)
    -- at operation 3: <dst=(some 24) op=(call <callee=(value (func 60)) args=[] argTypes=[]>) type=109 guard=none>
    refine W_call (prefixes_ok w6) rfl ?_
    rintro v w7 ⟨mp, rfl, hmp, k7, hpre⟩
    refine W_call (infixes_ok w7) rfl ?_
    rintro v w8 ⟨mi, rfl, hmi, k8, hinf⟩
    have hpl := hpre.lt
    have hil := hinf.lt
    have zk7 := k7.size
    have zk8 := k8.size
    (refine W_build (by rfl) (by rfl) ?_)
    -- at operation 6: <dst=(some 27) op=(box 112 (tmp 26)) type=88 guard=none>
    refine W_box (L := [.slice ta ts.length tc, .int .i64 (t.length : Int), .map (some mp), .map (some mi)]) rfl (fun w9 n9 => ?_)
    have z9 := n9.size
    have k9 : Ext w w9 := ((k6.trans k7).trans k8).trans n9.keep
    ((refine M_assign ?_; (first | refine M_ptr rfl ?_ | refine W_move ?_))
     <;> refine W_nil ?_)
    repeat' first | refine nx ?_ | refine C_cond_t rfl ?_ | refine C_cond_f rfl ?_ | refine Q_block_on rfl ?_
    have hT9 := ((((hT.keep p5.keep (fun b hb => by simp; omega)).keep p6.keep (fun b hb => by simp; omega)).ext k7).ext k8).ext n9.keep
    have f1 := (((d1.keep k7 (by simp)).keep k8 (by simp)).keep n9.keep (by simp))
    have f2 := (((d2.keep k7 (by simp)).keep k8 (by simp)).keep n9.keep (by simp))
    have f3 := (((d3.keep k7 (by simp)).keep k8 (by simp)).keep n9.keep (by simp))
    have hP : PSt w9 ⟨w3.heap.size, w8.heap.size, t.length, mp, mi⟩ ts := ⟨⟨ta, tc, n9.blk, hT9.mono fun b hb => by have := hb.1; have := hb.2; exact ⟨by show w3.heap.size ≤ b; omega, by show b < w8.heap.size; omega⟩⟩, (hpre.keep k8 (by simp)).keep n9.keep (by simp), hinf.keep n9.keep (by simp), ⟨by show mp < w8.heap.size; omega, hil⟩, hwf, ht2⟩
    have hW : PW w9 ⟨w3.heap.size, w8.heap.size, t.length, mp, mi⟩ ts := ⟨hP, hG.ext k9, by show 8 ≤ w8.heap.size; omega⟩
    have hpr : ∀ {r : Ans (NT.T .edit)}, Run (whole .edit) ts r → PRes .edit t (errOf t.length r) := fun {r} hr => by unfold PRes; rw [hm]; exact ⟨r, hr, rfl⟩
    have hpan : ∀ (f : Fr) (w10 : World) (l : List Tok), Run (whole .edit) ts (.error l) → Keep [w8.heap.size, w.heap.size] w9 w10 → (∃ L1, Blk w10 w.heap.size 43 L1 ∧ L1.length = 9) → f 4 = pt w.heap.size → f 5 = pt w1.heap.size → f 6 = pt w2.heap.size →
        finD Tryz.prog Tryz.f46 (fun v w' => RunAns edtR aggV [.int .i64 0, strV [], strV [], .int .i64 0, .int .i64 0, strV [], .int .i64 0, .int .i64 0, .slice none 0 0] (PRes .edit t) w w' v) (fun _ _ => False) (.panic (errV t.length l)) f [{ target := .fn (.func 73) #[pt w.heap.size, pt w1.heap.size, pt w2.heap.size], args := #[] }] w10 := by
      rintro f w10 l hr hk ⟨L1, g1, hL1⟩ e4 e5 e6
      obtain ⟨e, p, he1, he2, he0⟩ := errV_ne (α := NT.T .edit) t.length l
      rw [he1]
      refine finD_pan_def (a := []) (c := [pt w.heap.size, pt w1.heap.size, pt w2.heap.size]) (recPan_D w10 _ _ _ L1 _ _ e (p : Int) g1 hL1 (f2.keep hk (by simp; omega)) (f3.keep hk (by simp; omega)) (by omega) (by omega) (by omega)) fun w11 h11 => ?_
      obtain ⟨k11, g1', g2', g3'⟩ := h11
      refine res_cellA e4 rfl g1'.cells (res_cell e5 (g2'.cell rfl) (res_cell e6 (g3'.cell rfl) ?_))
      have hp := hpr hr
      rw [he2] at hp
      exact ⟨[.int .i64 0, strV [], strV [], .int .i64 0, .int .i64 0, strV [], .int .i64 0, .int .i64 0, .slice none 0 0], e, p, rfl, (k9.keep hk (by simp; omega)).keep k11 (by simp; omega), .inr ⟨p, hp, he0, rfl, rfl⟩⟩
    (refine C_region ?_
     <;> (first | refine M_func rfl ?_ | refine W_move ?_)
     <;> (first | refine M_ptr rfl ?_ | refine W_move ?_))
    -- at operation 2: <dst=(some 30) op=(call <callee=(value (tmp 28)) args=[(tmp 29)] argTypes=[88]>) type=43 guard=none>
    refine W_callvP (v1 := []) (v2 := []) (vs := [pt w8.heap.size]) rfl (hI ⟨w3.heap.size, w8.heap.size, t.length, mp, mi⟩ ts.length w9 ts hW (Nat.le_refl _)) rfl ?_ ?_
    rotate_left
    · rintro ch w10 ⟨k10, l, r10, rfl⟩
      repeat' first | refine nx ?_ | refine C_cond_t rfl ?_ | refine C_cond_f rfl ?_ | refine Q_block_on rfl ?_
      exact hpan _ w10 l (Run.callE r10) (k10.mono (by simp)) ⟨_, f1.keep k10 (by simp; omega), rfl⟩ rfl rfl rfl
    rintro v w10 ⟨k10, a, ts', r10, q10, c, rfl, fit⟩
    have hcl : c.length = 9 := Rp.len edtR fit
    have hco := Rp.one edtR fit
    have g1 := f1.keep k10 (by simp; omega)
    have g2 := f2.keep k10 (by simp; omega)
    have g3 := f3.keep k10 (by simp; omega)
    have z10 := k10.size
    refine W_store_agg (cs := c) rfl rfl hcl hco g1 (by simp) (fun w11 p11 => ?_)
    have g1' : Blk w11 w.heap.size 43 c := by
      have := p11.blk
      rw [splice_full [.int .i64 0, strV [], strV [], .int .i64 0, .int .i64 0, strV [], .int .i64 0, .int .i64 0, .slice none 0 0] c (by rw [hcl]; rfl)] at this
      exact this
    have g2' := g2.keep p11.keep (by simp; omega)
    have g3' := g3.keep p11.keep (by simp; omega)
    have fit' := Rp.keep edtR fit p11.keep (fun b hb => by simp [fresh] at hb ⊢; omega)
    have k911 : Keep [w8.heap.size, w.heap.size] w9 w11 := (k10.mono (by simp)).trans (p11.keep.mono (Y := [w8.heap.size, w.heap.size]) (by simp)) (by simp)
    have z11 := p11.size
    have hE : w.heap.size < w8.heap.size := by omega
    obtain ⟨⟨ta', tc', hb10, hs10⟩, hq3, hq4, hq5, hq6, hq7⟩ := id q10
    have hb11 := hb10.keep p11.keep (by simp; omega)
    refine W_nil ?_
    repeat' first | refine nx ?_ | refine C_cond_t rfl ?_ | refine C_cond_f rfl ?_ | refine Q_block_on rfl ?_
    cases ts' with
    | cons x l =>
      have hl : (x :: l).length = l.length + 1 := rfl
      (refine C_region ?_
       <;> (first | refine M_ptr rfl ?_ | refine W_move ?_)
       <;> refine W_nilCheck rfl ?_
       <;> refine W_fieldAddr rfl ?_
       <;> (first | refine W_load rfl (Blk.cell (by assumption) (by rfl)) ?_ | refine W_load rfl (by assumption) ?_)
       <;> refine W_len rfl ?_
       <;> (refine W_gtr rfl rfl (fun hc => ?_) (fun hc => ?_) <;> try (exfalso; omega))
       <;> refine W_nil ?_)
      repeat' first | refine nx ?_ | refine C_cond_t rfl ?_ | refine C_cond_f rfl ?_ | refine Q_block_on rfl ?_
      (refine C_region ?_
       <;> (first | refine M_ptr rfl ?_ | refine W_move ?_))
      -- at operation 1: <dst=(some 38) op=(call <callee=(value (func 62)) args=[(tmp 37)] argTypes=[88]>) type=0 guard=none>
      have q11 : PSt w11 ⟨w3.heap.size, w8.heap.size, t.length, mp, mi⟩ (x :: l) := ⟨⟨ta', tc', hb11, hs10.keep p11.keep (fun b hb => by have : w3.heap.size ≤ b := hb.1; simp; omega)⟩, hq3.keep p11.keep (by simp; omega), hq4.keep p11.keep (by simp; omega), hq5, hq6, hq7⟩
      refine W_callP (wrong_ok ⟨w3.heap.size, w8.heap.size, t.length, mp, mi⟩ w11 (x :: l) q11) rfl (R := fun _ _ => False) ?_ ?_
      · rintro v w2 hh; exact hh.elim
      · rintro ch w2 ⟨rfl, rfl⟩
        repeat' first | refine nx ?_ | refine C_cond_t rfl ?_ | refine C_cond_f rfl ?_ | refine Q_block_on rfl ?_
        exact hpan _ w2 (x :: l) (Run.call r10 (Run.look (Run.fail _))) k911 ⟨_, g1', hcl⟩ rfl rfl rfl
    | nil =>
      have hl : ([] : List Tok).length = 0 := rfl
      (refine C_region ?_
       <;> (first | refine M_ptr rfl ?_ | refine W_move ?_)
       <;> refine W_nilCheck rfl ?_
       <;> refine W_fieldAddr rfl ?_
       <;> (first | refine W_load rfl (Blk.cell (by assumption) (by rfl)) ?_ | refine W_load rfl (by assumption) ?_)
       <;> refine W_len rfl ?_
       <;> (refine W_gtr rfl rfl (fun hc => ?_) (fun hc => ?_) <;> try (exfalso; omega))
       <;> refine W_nil ?_)
      repeat' first | refine nx ?_ | refine C_cond_t rfl ?_ | refine C_cond_f rfl ?_ | refine Q_block_on rfl ?_
      (refine C_region ?_; refine W_load_aggB rfl g1' hcl ?_)
      refine W_store_agg (cs := c) rfl rfl hcl hco g1' (by omega) (fun w12 p12 => ?_)
      have i1 : Blk w12 w.heap.size 43 c := by
        have := p12.blk
        rw [splice_full c c rfl] at this
        exact this
      refine W_store rfl rfl rfl (g2'.keep p12.keep (by simp; omega)) (by simp) (fun w13 p13 => ?_)
      refine W_store rfl rfl rfl ((g3'.keep p12.keep (by simp; omega)).keep p13.keep (by simp; omega)) (by simp) (fun w14 p14 => ?_)
      have z12 := p12.size
      have z13 := p13.size
      have j1 := (i1.keep p13.keep (by simp; omega)).keep p14.keep (by simp; omega)
      have j2 : Blk w14 w1.heap.size 25 [.int .i64 0] := p13.blk.keep p14.keep (by simp; omega)
      have j3 : Blk w14 w2.heap.size 3 [.int .i64 (-1)] := p14.blk
      have k14 : Ext w w14 := (((k9.keep k911 (by simp; omega)).keep p12.keep (by simp)).keep p13.keep (by simp; omega)).keep p14.keep (by simp; omega)
      have fit14 := Rp.keep edtR (Rp.keep edtR (Rp.keep edtR fit' p12.keep (fun b hb => by simp [fresh] at hb ⊢; omega)) p13.keep (fun b hb => by simp [fresh] at hb ⊢; omega)) p14.keep (fun b hb => by simp [fresh] at hb ⊢; omega)
      refine W_nil ?_
      repeat' first | refine nx ?_ | refine C_cond_t rfl ?_ | refine C_cond_f rfl ?_ | refine Q_block_on rfl ?_
      refine finD_ret_def (a := []) (c := [pt w.heap.size, pt w1.heap.size, pt w2.heap.size]) (recRet_D _ _ _ _) fun w15 k15 => ?_
      refine res_cellA rfl hcl (j1.keep k15 (by simp)).cells (res_cell rfl ((j2.keep k15 (by simp)).cell rfl) (res_cell rfl ((j3.keep k15 (by simp)).cell rfl) ?_))
      have hp := hpr (Run.call r10 (Run.look (Run.ret _ _)))
      exact ⟨c, 0, -1, rfl, k14.trans k15, .inl ⟨a, hp, rfl, rfl, Rp.mono edtR (Rp.ext edtR fit14 k15) fun b hb => by simp only [fresh] at hb ⊢; omega⟩⟩
  · (refine C_region ?_
     <;> (first | refine W_load rfl (Blk.cell (by assumption) (by rfl)) ?_ | refine W_load rfl (by assumption) ?_)
     <;> (refine W_neq rfl rfl (fun hc => ?_) (fun hc => ?_) <;> try (exfalso; omega))
     <;> refine W_nil ?_)
    repeat' first | refine nx ?_ | refine C_cond_t rfl ?_ | refine C_cond_f rfl ?_ | refine Q_block_on rfl ?_
    refine C_drawN (.read 0 (.read 1 (.read 2 (.alt 3 (.alt 4 (.alt 5 .done .stop) .stop) .stop)))) mixed (by kernel_rfl) (fun wd kd ed => ⟨fun W => Cells W w.heap.size 0 [.int .i64 0, strV [], strV [], .int .i64 0, .int .i64 0, strV [], .int .i64 0, .int .i64 0, .slice none 0 0] ∧ W.cell? ⟨w1.heap.size, 0, none⟩ = some (.int .i64 e) ∧ W.cell? ⟨w2.heap.size, 0, none⟩ = some (.int .i64 (p : Int)), ?_, ?_⟩)
    · exact ⟨(d1.keep kd (by simp)).cells, (d2.keep kd (by simp)).cell rfl, (d3.keep kd (by simp)).cell rfl⟩
    have fc0 : ∀ W : World, (Cells W w.heap.size 0 [.int .i64 0, strV [], strV [], .int .i64 0, .int .i64 0, strV [], .int .i64 0, .int .i64 0, .slice none 0 0] ∧ W.cell? ⟨w1.heap.size, 0, none⟩ = some (.int .i64 e) ∧ W.cell? ⟨w2.heap.size, 0, none⟩ = some (.int .i64 (p : Int))) → Cells W w.heap.size 0 [.int .i64 0, strV [], strV [], .int .i64 0, .int .i64 0, strV [], .int .i64 0, .int .i64 0, .slice none 0 0] := fun W h => h.1
    have fc1 : ∀ W : World, (Cells W w.heap.size 0 [.int .i64 0, strV [], strV [], .int .i64 0, .int .i64 0, strV [], .int .i64 0, .int .i64 0, .slice none 0 0] ∧ W.cell? ⟨w1.heap.size, 0, none⟩ = some (.int .i64 e) ∧ W.cell? ⟨w2.heap.size, 0, none⟩ = some (.int .i64 (p : Int))) → W.cell? ⟨w1.heap.size, 0, none⟩ = some (.int .i64 e) := fun W h => h.2.1
    have fc2 : ∀ W : World, (Cells W w.heap.size 0 [.int .i64 0, strV [], strV [], .int .i64 0, .int .i64 0, strV [], .int .i64 0, .int .i64 0, .slice none 0 0] ∧ W.cell? ⟨w1.heap.size, 0, none⟩ = some (.int .i64 e) ∧ W.cell? ⟨w2.heap.size, 0, none⟩ = some (.int .i64 (p : Int))) → W.cell? ⟨w2.heap.size, 0, none⟩ = some (.int .i64 (p : Int)) := fun W h => h.2.2
    replace d1 := d1.keep kd (by simp)
    replace d2 := d2.keep kd (by simp)
    replace d3 := d3.keep kd (by simp)
    ((apply D_R rfl rfl; (intro W hW; (first | refine W_load rfl (fc0 W hW) ?_ | refine W_load rfl (fc1 W hW) ?_ | refine W_load rfl (fc2 W hW) ?_ | refine W_load_agg rfl (by rfl) (fc0 W hW) ?_ | refine W_load_agg rfl (by rfl) (fc1 W hW) ?_ | refine W_load_agg rfl (by rfl) (fc2 W hW) ?_); exact W_nil ⟨rfl, rfl, rfl⟩))
     <;> (apply D_R rfl rfl; (intro W hW; (first | refine W_load rfl (fc0 W hW) ?_ | refine W_load rfl (fc1 W hW) ?_ | refine W_load rfl (fc2 W hW) ?_ | refine W_load_agg rfl (by rfl) (fc0 W hW) ?_ | refine W_load_agg rfl (by rfl) (fc1 W hW) ?_ | refine W_load_agg rfl (by rfl) (fc2 W hW) ?_); exact W_nil ⟨rfl, rfl, rfl⟩))
     <;> (apply D_R rfl rfl; (intro W hW; (first | refine W_load rfl (fc0 W hW) ?_ | refine W_load rfl (fc1 W hW) ?_ | refine W_load rfl (fc2 W hW) ?_ | refine W_load_agg rfl (by rfl) (fc0 W hW) ?_ | refine W_load_agg rfl (by rfl) (fc1 W hW) ?_ | refine W_load_agg rfl (by rfl) (fc2 W hW) ?_); exact W_nil ⟨rfl, rfl, rfl⟩)))
    -- at place 3, operation 3: <dst=none op=(store 43 (tmp 4) (tmp 17)) type=0 guard=none>
    refine D_E rfl ?_
    refine W_store_agg (cs := [.int .i64 0, strV [], strV [], .int .i64 0, .int .i64 0, strV [], .int .i64 0, .int .i64 0, .slice none 0 0]) rfl rfl rfl (oneC_all rfl) d1 (by simp) (fun wa pa => ?_)
    have a1 : Blk wa w.heap.size 43 [.int .i64 0, strV [], strV [], .int .i64 0, .int .i64 0, strV [], .int .i64 0, .int .i64 0, .slice none 0 0] := pa.blk
    have a2 := d2.keep pa.keep (by simp; omega)
    have a3 := d3.keep pa.keep (by simp; omega)
    refine W_nil ⟨_, fun _ h => h, ⟨a1.cells, a2.cell rfl, a3.cell rfl⟩, ?_⟩
    refine D_E rfl ?_
    refine W_store rfl rfl rfl a2 (by simp) (fun wb pb => ?_)
    have b1' := a1.keep pb.keep (by simp; omega)
    have b2' : Blk wb w1.heap.size 25 [.int .i64 e] := pb.blk
    have b3' := a3.keep pb.keep (by simp; omega)
    refine W_nil ⟨_, fun _ h => h, ⟨b1'.cells, b2'.cell rfl, b3'.cell rfl⟩, ?_⟩
    refine D_E rfl ?_
    refine W_store rfl rfl rfl b3' (by simp) (fun wc pc => ?_)
    have c1' := b1'.keep pc.keep (by simp; omega)
    have c2' := b2'.keep pc.keep (by simp; omega)
    have c3' : Blk wc w2.heap.size 3 [.int .i64 (p : Int)] := pc.blk
    refine W_nil ⟨_, fun _ h => h, ⟨c1'.cells, c2'.cell rfl, c3'.cell rfl⟩, ?_⟩
    refine D_nil ?_
    repeat' first | refine nx ?_ | refine C_cond_t rfl ?_ | refine C_cond_f rfl ?_ | refine Q_block_on rfl ?_
    refine finD_ret_nil (res_cellA rfl rfl c1'.cells (res_cell rfl (c2'.cell rfl) (res_cell rfl (c3'.cell rfl) ?_)))
    refine ⟨[.int .i64 0, strV [], strV [], .int .i64 0, .int .i64 0, strV [], .int .i64 0, .int .i64 0, .slice none 0 0], e, p, rfl, (((k6.trans kd).keep pa.keep (by simp)).keep pb.keep (by simp; omega)).keep pc.keep (by simp; omega), .inr ⟨p, ?_, he, rfl, rfl⟩⟩
    unfold PRes
    rw [hm]

theorem item_fml (E : Env) (N : Nat) : ItemR fmlR aggV E N 41 (body .formula) := by
  intro w ts h hN
  refine FnP.mono ((formulas_ok E N).2.2.2 w ts h hN) ?_ fun _ _ h => h
  rintro v w' ⟨k, a, ts', r, q, f⟩
  obtain ⟨c, rfl, hc, _⟩ := f.cells
  exact ⟨k, a, ts', r, q, c, rfl, hc, f⟩
def zeroFc : List Value := [.int .i64 0, strV [], .int .i64 0, .int .i64 0, .slice none 0 0]
theorem parse_F (w : World) (t : List UInt8) (hG : GK w) : Fn Tryz.prog 16 [strV t] w (fun v w' => RunAns fmlR aggV [.int .i64 0, strV [], .int .i64 0, .int .i64 0, .slice none 0 0] (PRes .formula t) w w' v) := by
  refine fn_of_wc Tryz.func16 rfl Tryz.ntmps16 (Nat.le_of_ble_eq_true rfl) (by kernel_rfl) ?_
  repeat' first | refine nx ?_ | refine C_cond_t rfl ?_ | refine C_cond_f rfl ?_ | refine Q_block_on rfl ?_
  (refine C_region ?_)
  -- at operation 0: <dst=(some 2) op=(alloc 39) type=0 guard=none>
  refine W_alloc (fun w1 n1 => ?_)
  have b1 : Blk w1 w.heap.size 39 [.int .i64 0, strV [], .int .i64 0, .int .i64 0, .slice none 0 0] := n1.blk
  have z1 := n1.size
  ((refine M_assign ?_; (first | refine M_int rfl ?_ | refine W_move ?_))
   <;> (refine M_assign ?_; (first | refine M_int rfl ?_ | refine W_move ?_))
   <;> refine W_nil ?_)
  repeat' first | refine nx ?_ | refine C_cond_t rfl ?_ | refine C_cond_f rfl ?_ | refine Q_block_on rfl ?_
  (refine C_region ?_
   <;> (first | refine M_str rfl ?_ | refine W_move ?_))
  -- at operation 1: <dst=(some 6) op=(call <callee=(value (func 40)) args=[(tmp 5), (func 41)] argTypes=[9, 86]>) type=52 guard=none>
  refine W_call (run_F w1 t (hG.ext n1.keep) item_fml) rfl ?_
  rintro v w2 ⟨c, e, q, rfl, k2, hr⟩
  have hc : c.length = 5 ∧ oneC c := by
    rcases hr with ⟨a, _, _, _, fit⟩ | ⟨p, _, _, _, rfl⟩
    · exact ⟨Rp.len fmlR fit, Rp.one fmlR fit⟩
    · exact ⟨rfl, oneC_all rfl⟩
  have b2 := b1.keep k2 (by simp)
  (refine W_extract rfl rfl ?_
   <;> refine W_extract rfl rfl ?_
   <;> refine W_extract rfl rfl ?_)
  -- at operation 5: <dst=none op=(store 39 (tmp 2) (tmp 7)) type=0 guard=none>
  refine W_store_agg (cs := c) rfl rfl hc.1 hc.2 b2 (by simp) (fun w3 p3 => ?_)
  have b3 : Blk w3 w.heap.size 39 c := by
    have := p3.blk
    rw [splice_full [.int .i64 0, strV [], .int .i64 0, .int .i64 0, .slice none 0 0] c (by rw [hc.1]; rfl)] at this
    exact this
  ((refine M_assign ?_; (first | refine M_int rfl ?_ | refine W_move ?_))
   <;> (refine M_assign ?_; (first | refine M_int rfl ?_ | refine W_move ?_))
   <;> refine W_nil ?_)
  repeat' first | refine nx ?_ | refine C_cond_t rfl ?_ | refine C_cond_f rfl ?_ | refine Q_block_on rfl ?_
  refine fin_retA2 rfl rfl hc.1 b3.cells ⟨c, e, q, rfl, (n1.keep.trans k2).keep p3.keep (by simp), ?_⟩
  rcases hr with ⟨a, h1, h2, h3, fit⟩ | h
  · exact .inl ⟨a, h1, h2, h3, Rp.mono fmlR (Rp.keep fmlR fit p3.keep (fun b hb => by simp [fresh] at hb ⊢; omega)) (fun b hb => by simp only [fresh] at hb ⊢; omega)⟩
  · exact .inr h
theorem parse_S (w : World) (t : List UInt8) (hG : GK w) : Fn Tryz.prog 23 [strV t] w (fun v w' => RunAns spcR aggV [.slice none 0 0, .slice none 0 0] (PRes .spec t) w w' v) := by
  refine fn_of_wc Tryz.func23 rfl Tryz.ntmps23 (Nat.le_of_ble_eq_true rfl) (by kernel_rfl) ?_
  repeat' first | refine nx ?_ | refine C_cond_t rfl ?_ | refine C_cond_f rfl ?_ | refine Q_block_on rfl ?_
  (refine C_region ?_)
  -- at operation 0: <dst=(some 2) op=(alloc 36) type=0 guard=none>
  refine W_alloc (fun w1 n1 => ?_)
  have b1 : Blk w1 w.heap.size 36 [.slice none 0 0, .slice none 0 0] := n1.blk
  have z1 := n1.size
  ((refine M_assign ?_; (first | refine M_int rfl ?_ | refine W_move ?_))
   <;> (refine M_assign ?_; (first | refine M_int rfl ?_ | refine W_move ?_))
   <;> refine W_nil ?_)
  repeat' first | refine nx ?_ | refine C_cond_t rfl ?_ | refine C_cond_f rfl ?_ | refine Q_block_on rfl ?_
  (refine C_region ?_
   <;> (first | refine M_str rfl ?_ | refine W_move ?_))
  -- at operation 1: <dst=(some 6) op=(call <callee=(value (func 42)) args=[(tmp 5), (func 43)] argTypes=[9, 90]>) type=65 guard=none>
  refine W_call (run_S w1 t (hG.ext n1.keep) spec_ok) rfl ?_
  rintro v w2 ⟨c, e, q, rfl, k2, hr⟩
  have hc : c.length = 2 ∧ oneC c := by
    rcases hr with ⟨a, _, _, _, fit⟩ | ⟨p, _, _, _, rfl⟩
    · exact ⟨Rp.len spcR fit, Rp.one spcR fit⟩
    · exact ⟨rfl, oneC_all rfl⟩
  have b2 := b1.keep k2 (by simp)
  (refine W_extract rfl rfl ?_
   <;> refine W_extract rfl rfl ?_
   <;> refine W_extract rfl rfl ?_)
  -- at operation 5: <dst=none op=(store 36 (tmp 2) (tmp 7)) type=0 guard=none>
  refine W_store_agg (cs := c) rfl rfl hc.1 hc.2 b2 (by simp) (fun w3 p3 => ?_)
  have b3 : Blk w3 w.heap.size 36 c := by
    have := p3.blk
    rw [splice_full [.slice none 0 0, .slice none 0 0] c (by rw [hc.1]; rfl)] at this
    exact this
  ((refine M_assign ?_; (first | refine M_int rfl ?_ | refine W_move ?_))
   <;> (refine M_assign ?_; (first | refine M_int rfl ?_ | refine W_move ?_))
   <;> refine W_nil ?_)
  repeat' first | refine nx ?_ | refine C_cond_t rfl ?_ | refine C_cond_f rfl ?_ | refine Q_block_on rfl ?_
  refine fin_retA2 rfl rfl hc.1 b3.cells ⟨c, e, q, rfl, (n1.keep.trans k2).keep p3.keep (by simp), ?_⟩
  rcases hr with ⟨a, h1, h2, h3, fit⟩ | h
  · exact .inl ⟨a, h1, h2, h3, Rp.mono spcR (Rp.keep spcR fit p3.keep (fun b hb => by simp [fresh] at hb ⊢; omega)) (fun b hb => by simp only [fresh] at hb ⊢; omega)⟩
  · exact .inr h
theorem parse_D (w : World) (t : List UInt8) (hG : GK w) : Fn Tryz.prog 25 [strV t] w (fun v w' => RunAns edtR aggV [.int .i64 0, strV [], strV [], .int .i64 0, .int .i64 0, strV [], .int .i64 0, .int .i64 0, .slice none 0 0] (PRes .edit t) w w' v) := by
  refine fn_of_wc Tryz.func25 rfl Tryz.ntmps25 (Nat.le_of_ble_eq_true rfl) (by kernel_rfl) ?_
  repeat' first | refine nx ?_ | refine C_cond_t rfl ?_ | refine C_cond_f rfl ?_ | refine Q_block_on rfl ?_
  (refine C_region ?_)
  -- at operation 0: <dst=(some 2) op=(alloc 43) type=0 guard=none>
  refine W_alloc (fun w1 n1 => ?_)
  have b1 : Blk w1 w.heap.size 43 [.int .i64 0, strV [], strV [], .int .i64 0, .int .i64 0, strV [], .int .i64 0, .int .i64 0, .slice none 0 0] := n1.blk
  have z1 := n1.size
  ((refine M_assign ?_; (first | refine M_int rfl ?_ | refine W_move ?_))
   <;> (refine M_assign ?_; (first | refine M_int rfl ?_ | refine W_move ?_))
   <;> refine W_nil ?_)
  repeat' first | refine nx ?_ | refine C_cond_t rfl ?_ | refine C_cond_f rfl ?_ | refine Q_block_on rfl ?_
  (refine C_region ?_
   <;> (first | refine M_str rfl ?_ | refine W_move ?_))
  -- at operation 1: <dst=(some 6) op=(call <callee=(value (func 46)) args=[(tmp 5), (func 47)] argTypes=[9, 94]>) type=67 guard=none>
  refine W_call (run_D w1 t (hG.ext n1.keep) edit_ok) rfl ?_
  rintro v w2 ⟨c, e, q, rfl, k2, hr⟩
  have hc : c.length = 9 ∧ oneC c := by
    rcases hr with ⟨a, _, _, _, fit⟩ | ⟨p, _, _, _, rfl⟩
    · exact ⟨Rp.len edtR fit, Rp.one edtR fit⟩
    · exact ⟨rfl, oneC_all rfl⟩
  have b2 := b1.keep k2 (by simp)
  (refine W_extract rfl rfl ?_
   <;> refine W_extract rfl rfl ?_
   <;> refine W_extract rfl rfl ?_)
  -- at operation 5: <dst=none op=(store 43 (tmp 2) (tmp 7)) type=0 guard=none>
  refine W_store_agg (cs := c) rfl rfl hc.1 hc.2 b2 (by simp) (fun w3 p3 => ?_)
  have b3 : Blk w3 w.heap.size 43 c := by
    have := p3.blk
    rw [splice_full [.int .i64 0, strV [], strV [], .int .i64 0, .int .i64 0, strV [], .int .i64 0, .int .i64 0, .slice none 0 0] c (by rw [hc.1]; rfl)] at this
    exact this
  ((refine M_assign ?_; (first | refine M_int rfl ?_ | refine W_move ?_))
   <;> (refine M_assign ?_; (first | refine M_int rfl ?_ | refine W_move ?_))
   <;> refine W_nil ?_)
  repeat' first | refine nx ?_ | refine C_cond_t rfl ?_ | refine C_cond_f rfl ?_ | refine Q_block_on rfl ?_
  refine fin_retA2 rfl rfl hc.1 b3.cells ⟨c, e, q, rfl, (n1.keep.trans k2).keep p3.keep (by simp), ?_⟩
  rcases hr with ⟨a, h1, h2, h3, fit⟩ | h
  · exact .inl ⟨a, h1, h2, h3, Rp.mono edtR (Rp.keep edtR fit p3.keep (fun b hb => by simp [fresh] at hb ⊢; omega)) (fun b hb => by simp only [fresh] at hb ⊢; omega)⟩
  · exact .inr h
end Go.Proofs.YtmnhnbpnjepkbaaGreatDoor

namespace Go.Proofs.YtmnhnbpnjepkbaaGreatDoor
open Go.RowKit
set_option linter.unusedVariables false

abbrev Out (α : Type) := Except (Int × Nat) α
def Out.errno {α : Type} : Out α → Int
  | .ok _ => 0
  | .error e => e.1
def Out.loc {α : Type} : Out α → Int
  | .ok _ => -1
  | .error e => (e.2 : Int)
def Out.val {α : Type} (z : α) : Out α → α
  | .ok a => a
  | .error _ => z
def zeroS : Spc := ⟨[], []⟩
def zeroD : Edt := ⟨0, ⟨[], [], 0, zeroF⟩⟩
theorem errOf_ne {α : Type} {n : Nat} {a : Ans α} {e : Int × Nat} (h : errOf n a = .error e) : e.1 ≠ 0 := by
  cases a with
  | ok y => cases h
  | error l =>
    cases l with
    | nil => cases h; show (51 : Int) ≠ 0; decide
    | cons x l => cases h; show (50 : Int) ≠ 0; decide
theorem PRes.ne {nt : NT} {t : List UInt8} {e : Int × Nat} (h : PRes nt t (.error e)) : e.1 ≠ 0 := by
  unfold PRes at h
  cases hm : lexM t with
  | error e' => rw [hm] at h; cases h; exact lexM_err hm
  | ok ts => rw [hm] at h; obtain ⟨a, _, h2⟩ := h; exact errOf_ne h2.symm
theorem PRes.zero {nt : NT} {t : List UInt8} {o : Out nt.T} (h : PRes nt t o) : o.errno = 0 ↔ ∃ a, o = .ok a := by
  cases o with
  | ok a => exact ⟨fun _ => ⟨a, rfl⟩, fun _ => rfl⟩
  | error e => exact ⟨fun h0 => absurd h0 h.ne, fun ⟨a, h⟩ => by cases h⟩
theorem zeroS_fits (ok : Nat → Prop) (w : World) : spcR.fits ok w [.slice none 0 0, .slice none 0 0] zeroS :=
  ⟨_, _, rfl, ⟨none, 0, [], rfl, ⟨none, 0, rfl, by simp [zeroS], by omega, fun _ => rfl, .inl rfl⟩, RsAt.nil⟩, ⟨none, 0, [], rfl, ⟨none, 0, rfl, by simp [zeroS], by omega, fun _ => rfl, .inl rfl⟩, RsAt.nil⟩⟩
theorem zeroF_fits (ok : Nat → Prop) (w : World) : fmlR.fits ok w [.int .i64 0, strV [], .int .i64 0, .int .i64 0, .slice none 0 0] zeroF := ⟨rfl, FAt.leaf _ _ _ _ _ _⟩
theorem zeroD_fits (ok : Nat → Prop) (w : World) : edtR.fits ok w [.int .i64 0, strV [], strV [], .int .i64 0, .int .i64 0, strV [], .int .i64 0, .int .i64 0, .slice none 0 0] zeroD :=
  ⟨_, rfl, _, rfl, rfl, FAt.leaf _ _ _ _ _ _⟩
/-- an answer, as an outcome -/
theorem RunAns.out {α : Type} {R : Rp α} {z : List Value} {za : α} {P : Out α → Prop} {w w' : World} {v : Value} (h : RunAns R aggV z P w w' v) (hz : R.fits (fresh w) w' z za) :
    ∃ (o : Out α) (c : List Value), P o ∧ v = .tuple #[.agg c.toArray, .int .i64 o.errno, .int .i64 o.loc] ∧ Ext w w' ∧ R.fits (fresh w) w' c (o.val za) := by
  obtain ⟨c, e, q, rfl, k, h | h⟩ := h
  · obtain ⟨a, h1, rfl, rfl, h4⟩ := h
    exact ⟨.ok a, c, h1, rfl, k, h4⟩
  · obtain ⟨p, h1, h2, rfl, rfl⟩ := h
    exact ⟨.error (e, p), c, h1, rfl, k, hz⟩

/-- the answers of all three functions -/
def ResV (w : World) (v : Value) (oS : Out Spc) (oF : Out Fml) (oD : Out Edt) : Prop :=
  ∃ cs cf cd : List Value, v = .agg (cs ++ (cf ++ (cd ++ [Value.int .i64 oS.errno, Value.int .i64 oF.errno, Value.int .i64 oD.errno, Value.int .i64 oS.loc, Value.int .i64 oF.loc, Value.int .i64 oD.loc]))).toArray ∧
    spcR.fits anyB w cs (oS.val zeroS) ∧ fmlR.fits anyB w cf (oF.val zeroF) ∧ edtR.fits anyB w cd (oD.val zeroD)
theorem ResV.ext {w w' : World} {v : Value} {oS : Out Spc} {oF : Out Fml} {oD : Out Edt} (h : ResV w v oS oF oD) (k : Ext w w') : ResV w' v oS oF oD := by
  obtain ⟨cs, cf, cd, e, h1, h2, h3⟩ := h
  exact ⟨cs, cf, cd, e, spcR.ext h1 k, fmlR.ext h2 k, edtR.ext h3 k⟩
theorem cells2 {cs : List Value} (h : cs.length = 2) : ∃ c0 c1, cs = [c0, c1] := by
  match cs, h with
  | [c0, c1], _ => exact ⟨_, _, rfl⟩
theorem cells9 {cs : List Value} (h : cs.length = 9) : ∃ c0 c1 c2 c3 c4 c5 c6 c7 c8, cs = [c0, c1, c2, c3, c4, c5, c6, c7, c8] := by
  match cs, h with
  | [c0, c1, c2, c3, c4, c5, c6, c7, c8], _ => exact ⟨_, _, _, _, _, _, _, _, _, rfl⟩
def zero22 : List Value := [.slice none 0 0, .slice none 0 0, .int .i64 0, strV [], .int .i64 0, .int .i64 0, .slice none 0 0, .int .i64 0, strV [], strV [], .int .i64 0, .int .i64 0, strV [], .int .i64 0, .int .i64 0, .slice none 0 0, .int .i64 0, .int .i64 0, .int .i64 0, .int .i64 0, .int .i64 0, .int .i64 0]

theorem parsed_ok (w : World) (t : List UInt8) (hG : GK w) : Fn Tryz.prog 12 [strV t] w fun v w' => Ext w w' ∧ ∃ oS oF oD, PRes .spec t oS ∧ PRes .formula t oF ∧ PRes .edit t oD ∧ ResV w' v oS oF oD := by
  refine fn_of_wc Tryz.func12 rfl Tryz.ntmps12 (Nat.le_of_ble_eq_true rfl) (by kernel_rfl) ?_
  repeat' first | refine nx ?_ | refine C_cond_t rfl ?_ | refine C_cond_f rfl ?_ | refine Q_block_on rfl ?_
  (refine C_region ?_)
  -- at operation 0: <dst=(some 2) op=(alloc 45) type=0 guard=none>
  refine W_alloc (fun w1 n1 => ?_)
  have b1 : Blk w1 w.heap.size 45 zero22 := n1.blk
  have z1 := n1.size
  refine W_nil ?_
  repeat' first | refine nx ?_ | refine C_cond_t rfl ?_ | refine C_cond_f rfl ?_ | refine Q_block_on rfl ?_
  (refine C_region ?_
   <;> refine W_build (by rfl) (by rfl) ?_)
  -- at operation 1: <dst=(some 3) op=(alloc 45) type=0 guard=none>
  refine W_newAgg (cs := zero22) rfl rfl (by rfl) (oneC_all rfl) (fun w2 n2 => ?_)
  have b2 := b1.keep n2.keep (by simp)
  have e2 := n2.blk
  have z2 := n2.size
  have k2 : Ext w w2 := n1.keep.trans n2.keep
  refine W_nil ?_
  repeat' first | refine nx ?_ | refine C_cond_t rfl ?_ | refine C_cond_f rfl ?_ | refine Q_block_on rfl ?_
  (refine C_region ?_
   <;> (first | refine M_str rfl ?_ | refine W_move ?_))
  -- at operation 1: <dst=(some 7) op=(call <callee=(value (func 23)) args=[(tmp 6)] argTypes=[9]>) type=65 guard=none>
  refine W_call (parse_S w2 t (hG.ext k2)) rfl ?_
  rintro _ w3 h3
  obtain ⟨oS, cs, pS, rfl, k3, fS⟩ := h3.out (zeroS_fits _ _)
  have hcs : cs.length = 2 := spcR.len fS
  have hco := spcR.one fS
  obtain ⟨s0, s1, rfl⟩ := cells2 hcs
  have b3 := b2.keep k3 (by simp)
  have e3 := e2.keep k3 (by simp)
  ((first | refine M_tuple rfl ?_ | refine W_move ?_)
   <;> refine W_extract rfl rfl ?_
   <;> refine W_extract rfl rfl ?_
   <;> refine W_extract rfl rfl ?_
   <;> refine W_fieldAddr rfl ?_)
  -- at operation 7: <dst=none op=(store 36 (tmp 11) (tmp 8)) type=0 guard=none>
  refine W_store_agg (cs := [s0, s1]) rfl rfl rfl hco e3 (by simp [zero22]) (fun w4 p4 => ?_)
  (refine W_fieldAddr rfl ?_)
  -- at operation 9: <dst=none op=(store 25 (tmp 12) (tmp 9)) type=0 guard=none>
  refine W_store rfl rfl rfl p4.blk (by simp [zero22, splice]) (fun w5 p5 => ?_)
  (refine W_fieldAddr rfl ?_)
  -- at operation 11: <dst=none op=(store 3 (tmp 13) (tmp 10)) type=0 guard=none>
  refine W_store rfl rfl rfl p5.blk (by simp [zero22, splice]) (fun w6 p6 => ?_)
  have e6 : Blk w6 w1.heap.size 45 [s0, s1, .int .i64 0, strV [], .int .i64 0, .int .i64 0, .slice none 0 0, .int .i64 0, strV [], strV [], .int .i64 0, .int .i64 0, strV [], .int .i64 0, .int .i64 0, .slice none 0 0, .int .i64 oS.errno, .int .i64 0, .int .i64 0, .int .i64 oS.loc, .int .i64 0, .int .i64 0] := p6.blk
  have kq : Keep [w1.heap.size] w3 w6 := (p4.keep.trans p5.keep (by simp)).trans p6.keep (by simp)
  have k6 : Ext w w6 := (k2.trans k3).keep kq (by simp; omega)
  have z3 := k3.size
  have z6 := kq.size
  have b6 := b3.keep kq (by simp; omega)
  have fS6 := spcR.keep fS kq (fun x hx => by simp [fresh] at hx ⊢; omega)
  refine W_nil ?_
  repeat' first | refine nx ?_ | refine C_cond_t rfl ?_ | refine C_cond_f rfl ?_ | refine Q_block_on rfl ?_
  (refine C_region ?_
   <;> (first | refine M_str rfl ?_ | refine W_move ?_))
  -- at operation 1: <dst=(some 16) op=(call <callee=(value (func 16)) args=[(tmp 15)] argTypes=[9]>) type=52 guard=none>
  refine W_call (parse_F w6 t (hG.ext k6)) rfl ?_
  rintro _ w7 h7
  obtain ⟨oF, cf, pF, rfl, k7, fF⟩ := h7.out (zeroF_fits _ _)
  have hcf : cf.length = 5 := fmlR.len fF
  have hcfo := fmlR.one fF
  obtain ⟨g0, g1, g2, g3, g4, rfl⟩ := cells5 hcf
  have b7 := b6.keep k7 (by simp)
  have e7 := e6.keep k7 (by simp)
  ((first | refine M_tuple rfl ?_ | refine W_move ?_)
   <;> refine W_extract rfl rfl ?_
   <;> refine W_extract rfl rfl ?_
   <;> refine W_extract rfl rfl ?_
   <;> refine W_fieldAddr rfl ?_)
  -- at operation 7: <dst=none op=(store 39 (tmp 20) (tmp 17)) type=0 guard=none>
  refine W_store_agg (cs := [g0, g1, g2, g3, g4]) rfl rfl rfl hcfo e7 (by simp) (fun w8 p8 => ?_)
  (refine W_fieldAddr rfl ?_)
  -- at operation 9: <dst=none op=(store 25 (tmp 21) (tmp 18)) type=0 guard=none>
  refine W_store rfl rfl rfl p8.blk (by simp [splice]) (fun w9 p9 => ?_)
  (refine W_fieldAddr rfl ?_)
  -- at operation 11: <dst=none op=(store 3 (tmp 22) (tmp 19)) type=0 guard=none>
  refine W_store rfl rfl rfl p9.blk (by simp [splice]) (fun wa pa => ?_)
  have ea : Blk wa w1.heap.size 45 [s0, s1, g0, g1, g2, g3, g4, .int .i64 0, strV [], strV [], .int .i64 0, .int .i64 0, strV [], .int .i64 0, .int .i64 0, .slice none 0 0, .int .i64 oS.errno, .int .i64 oF.errno, .int .i64 0, .int .i64 oS.loc, .int .i64 oF.loc, .int .i64 0] := pa.blk
  have kr : Keep [w1.heap.size] w7 wa := (p8.keep.trans p9.keep (by simp)).trans pa.keep (by simp)
  have ka : Ext w wa := (k6.trans k7).keep kr (by simp; omega)
  have z7 := k7.size
  have za := kr.size
  have ba := b7.keep kr (by simp; omega)
  have fFa := fmlR.keep fF kr (fun x hx => by simp [fresh] at hx ⊢; omega)
  have fSa := spcR.keep (spcR.ext fS6 k7) kr (fun x hx => by simp [fresh] at hx ⊢; omega)
  refine W_nil ?_
  repeat' first | refine nx ?_ | refine C_cond_t rfl ?_ | refine C_cond_f rfl ?_ | refine Q_block_on rfl ?_
  (refine C_region ?_
   <;> (first | refine M_str rfl ?_ | refine W_move ?_))
  -- at operation 1: <dst=(some 25) op=(call <callee=(value (func 25)) args=[(tmp 24)] argTypes=[9]>) type=67 guard=none>
  refine W_call (parse_D wa t (hG.ext ka)) rfl ?_
  rintro _ wb hb
  obtain ⟨oD, cd, pD, rfl, kb, fD⟩ := hb.out (zeroD_fits _ _)
  have hcd : cd.length = 9 := edtR.len fD
  have hcdo := edtR.one fD
  obtain ⟨d0, d1, d2, d3, d4, d5, d6, d7, d8, rfl⟩ := cells9 hcd
  have bb := ba.keep kb (by simp)
  have eb := ea.keep kb (by simp)
  ((first | refine M_tuple rfl ?_ | refine W_move ?_)
   <;> refine W_extract rfl rfl ?_
   <;> refine W_extract rfl rfl ?_
   <;> refine W_extract rfl rfl ?_
   <;> refine W_fieldAddr rfl ?_)
  -- at operation 7: <dst=none op=(store 43 (tmp 29) (tmp 26)) type=0 guard=none>
  refine W_store_agg (cs := [d0, d1, d2, d3, d4, d5, d6, d7, d8]) rfl rfl rfl hcdo eb (by simp) (fun wc pc => ?_)
  (refine W_fieldAddr rfl ?_)
  -- at operation 9: <dst=none op=(store 25 (tmp 30) (tmp 27)) type=0 guard=none>
  refine W_store rfl rfl rfl pc.blk (by simp [splice]) (fun wd pd => ?_)
  (refine W_fieldAddr rfl ?_)
  -- at operation 11: <dst=none op=(store 3 (tmp 31) (tmp 28)) type=0 guard=none>
  refine W_store rfl rfl rfl pd.blk (by simp [splice]) (fun we pe => ?_)
  have ee : Blk we w1.heap.size 45 ([s0, s1] ++ ([g0, g1, g2, g3, g4] ++ ([d0, d1, d2, d3, d4, d5, d6, d7, d8] ++ [Value.int .i64 oS.errno, Value.int .i64 oF.errno, Value.int .i64 oD.errno, Value.int .i64 oS.loc, Value.int .i64 oF.loc, Value.int .i64 oD.loc]))) := pe.blk
  have ks : Keep [w1.heap.size] wb we := (pc.keep.trans pd.keep (by simp)).trans pe.keep (by simp)
  have ke : Ext w we := (ka.trans kb).keep ks (by simp; omega)
  have zb := kb.size
  have ze := ks.size
  have be := bb.keep ks (by simp; omega)
  have fDe := edtR.keep fD ks (fun x hx => by simp [fresh] at hx ⊢; omega)
  have fFe := fmlR.keep (fmlR.ext fFa kb) ks (fun x hx => by simp [fresh] at hx ⊢; omega)
  have fSe := spcR.keep (spcR.ext fSa kb) ks (fun x hx => by simp [fresh] at hx ⊢; omega)
  refine W_nil ?_
  repeat' first | refine nx ?_ | refine C_cond_t rfl ?_ | refine C_cond_f rfl ?_ | refine Q_block_on rfl ?_
  (refine C_region ?_; refine W_load_aggB rfl ee rfl ?_)
  have hall : oneC ([s0, s1] ++ ([g0, g1, g2, g3, g4] ++ ([d0, d1, d2, d3, d4, d5, d6, d7, d8] ++ [Value.int .i64 oS.errno, Value.int .i64 oF.errno, Value.int .i64 oD.errno, Value.int .i64 oS.loc, Value.int .i64 oF.loc, Value.int .i64 oD.loc]))) :=
    oneC_append hco (oneC_append hcfo (oneC_append hcdo (oneC_all rfl)))
  refine W_store_agg (cs := ([s0, s1] ++ ([g0, g1, g2, g3, g4] ++ ([d0, d1, d2, d3, d4, d5, d6, d7, d8] ++ [Value.int .i64 oS.errno, Value.int .i64 oF.errno, Value.int .i64 oD.errno, Value.int .i64 oS.loc, Value.int .i64 oF.loc, Value.int .i64 oD.loc])))) rfl rfl rfl hall be (by simp [zero22]) (fun wf pf => ?_)
  have bf : Blk wf w.heap.size 45 ([s0, s1] ++ ([g0, g1, g2, g3, g4] ++ ([d0, d1, d2, d3, d4, d5, d6, d7, d8] ++ [Value.int .i64 oS.errno, Value.int .i64 oF.errno, Value.int .i64 oD.errno, Value.int .i64 oS.loc, Value.int .i64 oF.loc, Value.int .i64 oD.loc]))) := pf.blk
  refine W_nil ?_
  repeat' first | refine nx ?_ | refine C_cond_t rfl ?_ | refine C_cond_f rfl ?_ | refine Q_block_on rfl ?_
  refine fin_retA rfl rfl rfl bf.cells ⟨ke.keep pf.keep (by simp), oS, oF, oD, pS, pF, pD, _, _, _, rfl, ?_, ?_, ?_⟩
  · exact spcR.mono (spcR.keep fSe pf.keep (fun x hx => by simp [fresh] at hx ⊢; omega)) fun _ _ => trivial
  · exact fmlR.mono (fmlR.keep fFe pf.keep (fun x hx => by simp [fresh] at hx ⊢; omega)) fun _ _ => trivial
  · exact edtR.mono (edtR.keep fDe pf.keep (fun x hx => by simp [fresh] at hx ⊢; omega)) fun _ _ => trivial
end Go.Proofs.YtmnhnbpnjepkbaaGreatDoor
