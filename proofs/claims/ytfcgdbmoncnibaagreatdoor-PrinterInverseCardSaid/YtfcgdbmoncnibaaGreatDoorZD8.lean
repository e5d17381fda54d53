/- The parser: a whole text. What the parser answers, as an outcome. The mode in which nothing is told of frozen cells. What the parser answers, and that what it makes bears no mark. Formulas at an address. The table of forms; a signal found by its name; the formula true. How many nodes a formula has. The nodes of a formula, one after the other: the iterator walked. The nodes of a formula: the loop around, and the number of nodes. Conditions: none. -/
import Derived.Test.YtfcgdbmoncnibaaGreatDoorZD7

namespace Go.Proofs.YtfcgdbmoncnibaaGreatDoor
open Go.RowKit
set_option linter.unusedVariables false
variable {mk : Prop} [MK mk]
def errOf {α : Type} (n : Nat) : Ans α → Except (Int × Nat) α
 | .ok y => .ok y.1
 | .error [] => .error (51, n)
 | .error (x :: _) => .error (50, x.loc)
def PRes (nt : NT) (t : List UInt8) (r : Except (Int × Nat) nt.T) : Prop :=
 match DE t with
 | .error e => r = .error e
 | .ok ts => ∃ a : Ans nt.T, Run (whole nt) ts a ∧ r = errOf t.length a
theorem PRes.det {nt : NT} {t : List UInt8} {r r' : Except (Int × Nat) nt.T} (h : PRes nt t r) (h' : PRes nt t r') : r = r' := by
 unfold PRes at h h'
 cases hm : DE t with
 | error e => rw [hm] at h h'; rw [h, h']
 | ok ts =>
  rw [hm] at h h'
  obtain ⟨a, h1, rfl⟩ := h
  obtain ⟨b, h2, rfl⟩ := h'
  rw [h1.det h2]
def RunAns {α : Type} (R : Rp α) (val : List Value → Value) (zero : List Value) (P : Except (Int × Nat) α → Prop) (w w' : World) (v : Value) : Prop :=
 ∃ c e q, v = .tuple #[val c, .int .i64 e, .int .i64 q] ∧ Ext w w' ∧ ((∃ a, P (.ok a) ∧ e = 0 ∧ q = -1 ∧ R.fits (fresh w) w' c a) ∨ ∃ p : Nat, P (.error (e, p)) ∧ e ≠ 0 ∧ q = (p : Int) ∧ c = zero)
theorem errV_ne {α : Type} (n : Nat) (l : List Tok) : ∃ e p, errV n l = failP e p ∧ (errOf n (.error l : Ans α)) = .error (e, p) ∧ e ≠ 0 := by
 cases l with
 | nil => exact ⟨51, n, rfl, rfl, by decide⟩
 | cons x l => exact ⟨50, x.loc, rfl, rfl, by decide⟩
theorem lexF (w : World) (t : List UInt8) (hG : GV w) : Fn Tryz.prog 38 [AK t] w fun v w' => ∃ a c e q ts, v = .tuple #[.slice a ts.length c, .int .i64 e, .int .i64 q] ∧ Ext w w' ∧ Sl (fun b => w.heap.size ≤ b ∧ b < w'.heap.size) w' (.slice a ts.length c) ts.length (DI ts) ∧
  ((DE t = .ok ts ∧ e = 0 ∧ q = -1) ∨ ∃ p : Nat, DE t = .error (e, p) ∧ e ≠ 0 ∧ q = (p : Int) ∧ ts = []) := by
 refine (lex_ok w t hG).mono ?_
 rintro v w' ⟨tv, e, q, rfl, k, h⟩
 unfold LexAns at h
 cases hm : DE t with
 | ok ts =>
  rw [hm] at h
  obtain ⟨rfl, rfl, ho⟩ := h
  have hs := BJ (ok := fun b => w.heap.size ≤ b ∧ b < w'.heap.size) ho fun g hg => Br ho hg
  obtain ⟨a, c, rfl, hr⟩ := id hs
  exact ⟨a, c, 0, -1, ts, rfl, k, hs, .inl ⟨rfl, rfl, rfl⟩⟩
 | error r =>
  obtain ⟨e', p⟩ := r
  rw [hm] at h
  obtain ⟨rfl, rfl, rfl⟩ := h
  exact ⟨none, 0, e, p, [], rfl, k, ⟨_, _, rfl, by simp, by omega, fun _ => rfl, .inl rfl⟩, .inr ⟨p, rfl, lexM_err hm, rfl, rfl⟩⟩
theorem DQ {P : Program} {f : Fr} {w : World} {T n b t : Nat} {L : List Value} {l : List ResultVar} {k : List Value → Prop} [hT : AggT P T n] (ha : f t = .pointer (some ⟨b, 0, none⟩)) (hl : L.length = n) (hc : Cells w b 0 L) (h : C9 P l f w fun r => k (.agg L.toArray :: r)) : C9 P (.cell t T :: l) f w k :=
 ⟨_, _, ha, Df hT hl hc, h⟩
theorem run_F (w : World) (t : List UInt8) (hG : GK w) (hI : ∀ E N, ItemR fmlR aggV E N 65 (body .formula)) : Fn Tryz.prog 64 [AK t, .func (.func 65) #[] #[]] w (fun v w' => RunAns fmlR aggV [.int .i64 0, AK [], .int .i64 0, .int .i64 0, .slice none 0 0] (PRes .formula t) w w' v) := by
 have hgs := hG.gv.size
 refine fn_of_wcD Tryz.func64 rfl Tryz.ntmps64 (Nat.le_of_ble_eq_true rfl) (by kernel_rfl) ?_
 repeat refine nx rfl ?_
 refine AA ?_
 refine Av (fun w1 n1 => ?_)
 refine Av (fun w2 n2 => ?_)
 refine Av (fun w3 n3 => ?_)
 have z1 := n1.size
 have z2 := n2.size
 have z3 := n3.size
 have b1 : Blk w3 w.heap.size 24 [.int .i64 0, AK [], .int .i64 0, .int .i64 0, .slice none 0 0] := (n1.blk.keep n2.keep (by simp)).keep n3.keep (by simp)
 have b2 : Blk w3 w1.heap.size 44 [.int .i64 0] := n2.blk.keep n3.keep (by simp)
 have b3 : Blk w3 w2.heap.size 3 [.int .i64 0] := n3.blk
 have k3 : Ext w w3 := (n1.keep.trans n2.keep).trans n3.keep
 repeat refine nx rfl ?_
 refine AA (AU rfl ?_)
 refine AS (lexF w3 t (hG.gv.ext k3)) rfl ?_
 rintro v w4 ⟨ta, tc, e, q, ts, rfl, k4, hT, hm⟩
 have z4 := k4.size
 have c1 := b1.keep k4 (by simp)
 have c2 := b2.keep k4 (by simp)
 have c3 := b3.keep k4 (by simp)
 refine Bf rfl (Ab rfl rfl (Ab rfl rfl (Ab rfl rfl (AC (Aa rfl ?_)))))
 refine Ah rfl rfl rfl c2 (by simp) (fun w5 p5 => ?_)
 refine Ah rfl rfl rfl (c3.keep p5.keep (by simp; omega)) (by simp) (fun w6 p6 => ?_)
 have z5 := p5.size
 have z6 := p6.size
 have d1 : Blk w6 w.heap.size 24 [.int .i64 0, AK [], .int .i64 0, .int .i64 0, .slice none 0 0] := (c1.keep p5.keep (by simp; omega)).keep p6.keep (by simp; omega)
 have d2 : Blk w6 w1.heap.size 44 [.int .i64 e] := p5.blk.keep p6.keep (by simp; omega)
 have d3 : Blk w6 w2.heap.size 3 [.int .i64 q] := p6.blk
 have k6 : Ext w w6 := ((k3.trans k4).keep p5.keep (by simp; omega)).keep p6.keep (by simp; omega)
 repeat refine nx rfl ?_
 rcases hm with ⟨hm, rfl, rfl⟩ | ⟨p, hm, he, rfl, rfl⟩
 ·obtain ⟨ht6, ht2, hwf⟩ := lexM_toks hm
  (refine AA (AF rfl (Blk.cell (by assumption) (by rfl)) ?_) <;> refine Di rfl rfl (by omega) ?_)
  repeat first | refine nx rfl ?_ | refine nf rfl ?_
  refine AA (BI rfl rfl ?_)
  refine W_defer (v1 := []) (v2 := [pt w.heap.size, pt w1.heap.size, pt w2.heap.size]) (vs := []) rfl rfl ?_
  repeat refine nx rfl ?_
  refine AA (Aa rfl (AU rfl (Aw rfl ?_)))
  refine AS (prefixes_ok w6) rfl ?_
  rintro v w7 ⟨mp, rfl, hmp, k7, hpre⟩
  refine AS (infixes_ok w7) rfl ?_
  rintro v w8 ⟨mi, rfl, hmi, k8, hinf⟩
  have hpl := hpre.lt
  have hil := hinf.lt
  have zk7 := k7.size
  have zk8 := k8.size
  refine Af (by rfl) (by rfl) ?_
  refine Bh (L := [.slice ta ts.length tc, .int .i64 (t.length : Int), .map (some mp), .map (some mi)]) rfl (fun w9 n9 => ?_)
  have z9 := n9.size
  have k9 : Ext w w9 := ((k6.trans k7).trans k8).trans n9.keep
  refine AC (AO rfl ?_)
  repeat refine nx rfl ?_
  have hT9 := ((((hT.keep p5.keep (fun b hb => by simp; omega)).keep p6.keep (fun b hb => by simp; omega)).ext k7).ext k8).ext n9.keep
  have f1 := (((d1.keep k7 (by simp)).keep k8 (by simp)).keep n9.keep (by simp))
  have f2 := (((d2.keep k7 (by simp)).keep k8 (by simp)).keep n9.keep (by simp))
  have f3 := (((d3.keep k7 (by simp)).keep k8 (by simp)).keep n9.keep (by simp))
  have hP : PSt w9 ⟨w3.heap.size, w8.heap.size, t.length, mp, mi⟩ ts := ⟨⟨ta, tc, n9.blk, hT9.mono fun b hb => by have := hb.1; have := hb.2; exact ⟨by show w3.heap.size ≤ b; omega, by show b < w8.heap.size; omega⟩⟩, (hpre.keep k8 (by simp)).keep n9.keep (by simp), hinf.keep n9.keep (by simp), ⟨by show mp < w8.heap.size; omega, hil⟩, hwf, ht2⟩
  have hW : PW w9 ⟨w3.heap.size, w8.heap.size, t.length, mp, mi⟩ ts := ⟨hP, hG.ext k9, by show 10 ≤ w8.heap.size; omega⟩
  have hpr : ∀ {r : Ans (NT.T .formula)}, Run (whole .formula) ts r → PRes .formula t (errOf t.length r) := fun {r} hr => by unfold PRes; rw [hm]; exact ⟨r, hr, rfl⟩
  have hpan : ∀ (f : Fr) (w10 : World) (l : List Tok), Run (whole .formula) ts (.error l) → Keep [w8.heap.size, w.heap.size] w9 w10 → (∃ L1, Blk w10 w.heap.size 24 L1 ∧ L1.length = 5) → f 4 = pt w.heap.size → f 5 = pt w1.heap.size → f 6 = pt w2.heap.size →
    Da Tryz.prog Tryz.f64 (fun v w' => RunAns fmlR aggV [.int .i64 0, AK [], .int .i64 0, .int .i64 0, .slice none 0 0] (PRes .formula t) w w' v) (fun _ _ => False) (.panic (errV t.length l)) f [{ target := .fn (.func 104) #[pt w.heap.size, pt w1.heap.size, pt w2.heap.size], args := #[] }] w10 := by
   rintro f w10 l hr hk ⟨L1, g1, hL1⟩ e4 e5 e6
   obtain ⟨e, p, he1, he2, he0⟩ := errV_ne (α := NT.T .formula) t.length l
   rw [he1]
   refine finD_pan_def (a := []) (c := [pt w.heap.size, pt w1.heap.size, pt w2.heap.size]) (recPan_F w10 _ _ _ L1 _ _ e (p : Int) g1 hL1 (f2.keep hk (by simp; omega)) (f3.keep hk (by simp; omega)) (by omega) (by omega) (by omega)) fun w11 h11 => ?_
   obtain ⟨k11, g1', g2', g3'⟩ := h11
   refine DQ e4 rfl g1'.cells (BL e5 (g2'.cell rfl) (BL e6 (g3'.cell rfl) ?_))
   have hp := hpr hr
   rw [he2] at hp
   exact ⟨[.int .i64 0, AK [], .int .i64 0, .int .i64 0, .slice none 0 0], e, p, rfl, (k9.keep hk (by simp; omega)).keep k11 (by simp; omega), .inr ⟨p, hp, he0, rfl, rfl⟩⟩
  refine AA (Cr rfl (AO rfl ?_))
  refine CM (v1 := []) (v2 := []) (vs := [pt w8.heap.size]) rfl (hI ⟨w3.heap.size, w8.heap.size, t.length, mp, mi⟩ ts.length w9 ts hW (Nat.le_refl _)) rfl ?_ ?_
  rotate_left
  ·rintro ch w10 ⟨k10, l, r10, rfl⟩
   repeat refine nx rfl ?_
   exact hpan _ w10 l (Run.callE r10) (k10.mono (by simp)) ⟨_, f1.keep k10 (by simp; omega), rfl⟩ rfl rfl rfl
  rintro v w10 ⟨k10, a, ts', r10, q10, c, rfl, fit⟩
  have hcl : c.length = 5 := Rp.len fmlR fit
  have hco := Rp.one fmlR fit
  have g1 := f1.keep k10 (by simp; omega)
  have g2 := f2.keep k10 (by simp; omega)
  have g3 := f3.keep k10 (by simp; omega)
  have z10 := k10.size
  refine AZ (cs := c) rfl rfl hcl hco g1 (by simp) (fun w11 p11 => ?_)
  have g1' : Blk w11 w.heap.size 24 c := by
   have := p11.blk
   rw [Bc [.int .i64 0, AK [], .int .i64 0, .int .i64 0, .slice none 0 0] c (by rw [hcl]; rfl)] at this
   exact this
  have g2' := g2.keep p11.keep (by simp; omega)
  have g3' := g3.keep p11.keep (by simp; omega)
  have fit' := Rp.keep fmlR fit p11.keep (fun b hb => by simp [fresh] at hb ⊢; omega)
  have k911 : Keep [w8.heap.size, w.heap.size] w9 w11 := (k10.mono (by simp)).trans (p11.keep.mono (Y := [w8.heap.size, w.heap.size]) (by simp)) (by simp)
  have z11 := p11.size
  have hE : w.heap.size < w8.heap.size := by omega
  obtain ⟨⟨ta', tc', hb10, hs10⟩, hq3, hq4, hq5, hq6, hq7⟩ := id q10
  have hb11 := hb10.keep p11.keep (by simp; omega)
  repeat refine nx rfl ?_
  cases ts' with
  | cons x l =>
   have hl : (x :: l).length = l.length + 1 := rfl
   (refine AA (AO rfl (AG rfl (AD rfl (AF rfl (Blk.cell (by assumption) (by rfl)) ?_)))) <;> refine Ap rfl (DF rfl rfl (by omega) ?_))
   repeat refine nx rfl ?_
   refine AA (AO rfl ?_)
   have q11 : PSt w11 ⟨w3.heap.size, w8.heap.size, t.length, mp, mi⟩ (x :: l) := ⟨⟨ta', tc', hb11, hs10.keep p11.keep (fun b hb => by have : w3.heap.size ≤ b := hb.1; simp; omega)⟩, hq3.keep p11.keep (by simp; omega), hq4.keep p11.keep (by simp; omega), hq5, hq6, hq7⟩
   refine Ac (wrong_ok ⟨w3.heap.size, w8.heap.size, t.length, mp, mi⟩ w11 (x :: l) q11) rfl (R := fun _ _ => False) ?_ ?_
   ·rintro v w2 hh; exact hh.elim
   ·rintro ch w2 ⟨rfl, rfl⟩
    repeat refine nx rfl ?_
    exact hpan _ w2 (x :: l) (Run.call r10 (Run.look (Run.fail _))) k911 ⟨_, g1', hcl⟩ rfl rfl rfl
  | nil =>
   have hl : ([] : List Tok).length = 0 := rfl
   (refine AA (AO rfl (AG rfl (AD rfl (AF rfl (Blk.cell (by assumption) (by rfl)) ?_)))) <;> refine Ap rfl (DH rfl rfl (by omega) ?_))
   repeat first | refine nx rfl ?_ | refine nf rfl ?_
   refine AA (AV rfl g1' hcl ?_)
   refine AZ (cs := c) rfl rfl hcl hco g1' (by omega) (fun w12 p12 => ?_)
   have i1 : Blk w12 w.heap.size 24 c := by
    have := p12.blk
    rw [Bc c c rfl] at this
    exact this
   refine Ah rfl rfl rfl (g2'.keep p12.keep (by simp; omega)) (by simp) (fun w13 p13 => ?_)
   refine Ah rfl rfl rfl ((g3'.keep p12.keep (by simp; omega)).keep p13.keep (by simp; omega)) (by simp) (fun w14 p14 => ?_)
   have z12 := p12.size
   have z13 := p13.size
   have j1 := (i1.keep p13.keep (by simp; omega)).keep p14.keep (by simp; omega)
   have j2 : Blk w14 w1.heap.size 44 [.int .i64 0] := p13.blk.keep p14.keep (by simp; omega)
   have j3 : Blk w14 w2.heap.size 3 [.int .i64 (-1)] := p14.blk
   have k14 : Ext w w14 := (((k9.keep k911 (by simp; omega)).keep p12.keep (by simp)).keep p13.keep (by simp; omega)).keep p14.keep (by simp; omega)
   have fit14 := Rp.keep fmlR (Rp.keep fmlR (Rp.keep fmlR fit' p12.keep (fun b hb => by simp [fresh] at hb ⊢; omega)) p13.keep (fun b hb => by simp [fresh] at hb ⊢; omega)) p14.keep (fun b hb => by simp [fresh] at hb ⊢; omega)
   repeat refine nx rfl ?_
   refine finD_ret_def (a := []) (c := [pt w.heap.size, pt w1.heap.size, pt w2.heap.size]) (recRet_F _ _ _ _) fun w15 k15 => ?_
   refine DQ rfl hcl (j1.keep k15 (by simp)).cells (BL rfl ((j2.keep k15 (by simp)).cell rfl) (BL rfl ((j3.keep k15 (by simp)).cell rfl) ?_))
   have hp := hpr (Run.call r10 (Run.look (Run.ret _ _)))
   exact ⟨c, 0, -1, rfl, k14.trans k15, .inl ⟨a, hp, rfl, rfl, Rp.mono fmlR (Rp.ext fmlR fit14 k15) fun b hb => by simp only [fresh] at hb ⊢; omega⟩⟩
 ·(refine AA (AF rfl (Blk.cell (by assumption) (by rfl)) ?_) <;> refine W_neqT rfl rfl (by omega) ?_)
  repeat refine nx rfl ?_
  refine A3 (.read 0 (.read 1 (.read 2 (.alt 3 (.alt 4 (.alt 5 .done .stop) .stop) .stop)))) BA (by kernel_rfl) (fun wd kd ed => ⟨fun W => Cells W w.heap.size 0 [.int .i64 0, AK [], .int .i64 0, .int .i64 0, .slice none 0 0] ∧ W.cell? ⟨w1.heap.size, 0, none⟩ = some (.int .i64 e) ∧ W.cell? ⟨w2.heap.size, 0, none⟩ = some (.int .i64 (p : Int)), ?_, ?_⟩)
  ·exact ⟨(d1.keep kd (by simp)).cells, (d2.keep kd (by simp)).cell rfl, (d3.keep kd (by simp)).cell rfl⟩
  have fc0 : ∀ W : World, (Cells W w.heap.size 0 [.int .i64 0, AK [], .int .i64 0, .int .i64 0, .slice none 0 0] ∧ W.cell? ⟨w1.heap.size, 0, none⟩ = some (.int .i64 e) ∧ W.cell? ⟨w2.heap.size, 0, none⟩ = some (.int .i64 (p : Int))) → Cells W w.heap.size 0 [.int .i64 0, AK [], .int .i64 0, .int .i64 0, .slice none 0 0] := fun W h => h.1
  have fc1 : ∀ W : World, (Cells W w.heap.size 0 [.int .i64 0, AK [], .int .i64 0, .int .i64 0, .slice none 0 0] ∧ W.cell? ⟨w1.heap.size, 0, none⟩ = some (.int .i64 e) ∧ W.cell? ⟨w2.heap.size, 0, none⟩ = some (.int .i64 (p : Int))) → W.cell? ⟨w1.heap.size, 0, none⟩ = some (.int .i64 e) := fun W h => h.2.1
  have fc2 : ∀ W : World, (Cells W w.heap.size 0 [.int .i64 0, AK [], .int .i64 0, .int .i64 0, .slice none 0 0] ∧ W.cell? ⟨w1.heap.size, 0, none⟩ = some (.int .i64 e) ∧ W.cell? ⟨w2.heap.size, 0, none⟩ = some (.int .i64 (p : Int))) → W.cell? ⟨w2.heap.size, 0, none⟩ = some (.int .i64 (p : Int)) := fun W h => h.2.2
  replace d1 := d1.keep kd (by simp)
  replace d2 := d2.keep kd (by simp)
  replace d3 := d3.keep kd (by simp)
  ((apply D_R rfl rfl; (intro W hW; refine Ad rfl (by rfl) (fc0 W hW) ?_; exact Z3)) <;> refine D_R rfl rfl (fun W hW => AF rfl (fc1 W hW) Z3) (D_R rfl rfl (fun W hW => AF rfl (fc2 W hW) Z3) ?_))
  refine D_E rfl ?_
  refine AZ (cs := [.int .i64 0, AK [], .int .i64 0, .int .i64 0, .slice none 0 0]) rfl rfl rfl (A5 rfl) d1 (by simp) (fun wa pa => ?_)
  have a1 : Blk wa w.heap.size 24 [.int .i64 0, AK [], .int .i64 0, .int .i64 0, .slice none 0 0] := pa.blk
  have a2 := d2.keep pa.keep (by simp; omega)
  have a3 := d3.keep pa.keep (by simp; omega)
  refine AJ ⟨_, fun _ h => h, ⟨a1.cells, a2.cell rfl, a3.cell rfl⟩, ?_⟩
  refine D_E rfl ?_
  refine Ah rfl rfl rfl a2 (by simp) (fun wb pb => ?_)
  have b1' := a1.keep pb.keep (by simp; omega)
  have b2' : Blk wb w1.heap.size 44 [.int .i64 e] := pb.blk
  have b3' := a3.keep pb.keep (by simp; omega)
  refine AJ ⟨_, fun _ h => h, ⟨b1'.cells, b2'.cell rfl, b3'.cell rfl⟩, ?_⟩
  refine D_E rfl ?_
  refine Ah rfl rfl rfl b3' (by simp) (fun wc pc => ?_)
  have c1' := b1'.keep pc.keep (by simp; omega)
  have c2' := b2'.keep pc.keep (by simp; omega)
  have c3' : Blk wc w2.heap.size 3 [.int .i64 (p : Int)] := pc.blk
  refine AJ ⟨_, fun _ h => h, ⟨c1'.cells, c2'.cell rfl, c3'.cell rfl⟩, ?_⟩
  refine Ay ?_
  repeat refine nx rfl ?_
  refine finD_ret_nil (DQ rfl rfl c1'.cells (BL rfl (c2'.cell rfl) (BL rfl (c3'.cell rfl) ?_)))
  refine ⟨[.int .i64 0, AK [], .int .i64 0, .int .i64 0, .slice none 0 0], e, p, rfl, (((k6.trans kd).keep pa.keep (by simp)).keep pb.keep (by simp; omega)).keep pc.keep (by simp; omega), .inr ⟨p, ?_, he, rfl, rfl⟩⟩
  unfold PRes
  rw [hm]
theorem run_S (w : World) (t : List UInt8) (hG : GK w) (hI : ∀ E N, ItemR spcR aggV E N 57 (body .spec)) : Fn Tryz.prog 56 [AK t, .func (.func 57) #[] #[]] w (fun v w' => RunAns spcR aggV [.slice none 0 0, .slice none 0 0] (PRes .spec t) w w' v) := by
 have hgs := hG.gv.size
 refine fn_of_wcD Tryz.func56 rfl Tryz.ntmps56 (Nat.le_of_ble_eq_true rfl) (by kernel_rfl) ?_
 repeat refine nx rfl ?_
 refine AA ?_
 refine Av (fun w1 n1 => ?_)
 refine Av (fun w2 n2 => ?_)
 refine Av (fun w3 n3 => ?_)
 have z1 := n1.size
 have z2 := n2.size
 have z3 := n3.size
 have b1 : Blk w3 w.heap.size 28 [.slice none 0 0, .slice none 0 0] := (n1.blk.keep n2.keep (by simp)).keep n3.keep (by simp)
 have b2 : Blk w3 w1.heap.size 44 [.int .i64 0] := n2.blk.keep n3.keep (by simp)
 have b3 : Blk w3 w2.heap.size 3 [.int .i64 0] := n3.blk
 have k3 : Ext w w3 := (n1.keep.trans n2.keep).trans n3.keep
 repeat refine nx rfl ?_
 refine AA (AU rfl ?_)
 refine AS (lexF w3 t (hG.gv.ext k3)) rfl ?_
 rintro v w4 ⟨ta, tc, e, q, ts, rfl, k4, hT, hm⟩
 have z4 := k4.size
 have c1 := b1.keep k4 (by simp)
 have c2 := b2.keep k4 (by simp)
 have c3 := b3.keep k4 (by simp)
 refine Bf rfl (Ab rfl rfl (Ab rfl rfl (Ab rfl rfl (AC (Aa rfl ?_)))))
 refine Ah rfl rfl rfl c2 (by simp) (fun w5 p5 => ?_)
 refine Ah rfl rfl rfl (c3.keep p5.keep (by simp; omega)) (by simp) (fun w6 p6 => ?_)
 have z5 := p5.size
 have z6 := p6.size
 have d1 : Blk w6 w.heap.size 28 [.slice none 0 0, .slice none 0 0] := (c1.keep p5.keep (by simp; omega)).keep p6.keep (by simp; omega)
 have d2 : Blk w6 w1.heap.size 44 [.int .i64 e] := p5.blk.keep p6.keep (by simp; omega)
 have d3 : Blk w6 w2.heap.size 3 [.int .i64 q] := p6.blk
 have k6 : Ext w w6 := ((k3.trans k4).keep p5.keep (by simp; omega)).keep p6.keep (by simp; omega)
 repeat refine nx rfl ?_
 rcases hm with ⟨hm, rfl, rfl⟩ | ⟨p, hm, he, rfl, rfl⟩
 ·obtain ⟨ht6, ht2, hwf⟩ := lexM_toks hm
  (refine AA (AF rfl (Blk.cell (by assumption) (by rfl)) ?_) <;> refine Di rfl rfl (by omega) ?_)
  repeat first | refine nx rfl ?_ | refine nf rfl ?_
  refine AA (BI rfl rfl ?_)
  refine W_defer (v1 := []) (v2 := [pt w.heap.size, pt w1.heap.size, pt w2.heap.size]) (vs := []) rfl rfl ?_
  repeat refine nx rfl ?_
  refine AA (Aa rfl (AU rfl (Aw rfl ?_)))
  refine AS (prefixes_ok w6) rfl ?_
  rintro v w7 ⟨mp, rfl, hmp, k7, hpre⟩
  refine AS (infixes_ok w7) rfl ?_
  rintro v w8 ⟨mi, rfl, hmi, k8, hinf⟩
  have hpl := hpre.lt
  have hil := hinf.lt
  have zk7 := k7.size
  have zk8 := k8.size
  refine Af (by rfl) (by rfl) ?_
  refine Bh (L := [.slice ta ts.length tc, .int .i64 (t.length : Int), .map (some mp), .map (some mi)]) rfl (fun w9 n9 => ?_)
  have z9 := n9.size
  have k9 : Ext w w9 := ((k6.trans k7).trans k8).trans n9.keep
  refine AC (AO rfl ?_)
  repeat refine nx rfl ?_
  have hT9 := ((((hT.keep p5.keep (fun b hb => by simp; omega)).keep p6.keep (fun b hb => by simp; omega)).ext k7).ext k8).ext n9.keep
  have f1 := (((d1.keep k7 (by simp)).keep k8 (by simp)).keep n9.keep (by simp))
  have f2 := (((d2.keep k7 (by simp)).keep k8 (by simp)).keep n9.keep (by simp))
  have f3 := (((d3.keep k7 (by simp)).keep k8 (by simp)).keep n9.keep (by simp))
  have hP : PSt w9 ⟨w3.heap.size, w8.heap.size, t.length, mp, mi⟩ ts := ⟨⟨ta, tc, n9.blk, hT9.mono fun b hb => by have := hb.1; have := hb.2; exact ⟨by show w3.heap.size ≤ b; omega, by show b < w8.heap.size; omega⟩⟩, (hpre.keep k8 (by simp)).keep n9.keep (by simp), hinf.keep n9.keep (by simp), ⟨by show mp < w8.heap.size; omega, hil⟩, hwf, ht2⟩
  have hW : PW w9 ⟨w3.heap.size, w8.heap.size, t.length, mp, mi⟩ ts := ⟨hP, hG.ext k9, by show 10 ≤ w8.heap.size; omega⟩
  have hpr : ∀ {r : Ans (NT.T .spec)}, Run (whole .spec) ts r → PRes .spec t (errOf t.length r) := fun {r} hr => by unfold PRes; rw [hm]; exact ⟨r, hr, rfl⟩
  have hpan : ∀ (f : Fr) (w10 : World) (l : List Tok), Run (whole .spec) ts (.error l) → Keep [w8.heap.size, w.heap.size] w9 w10 → (∃ L1, Blk w10 w.heap.size 28 L1 ∧ L1.length = 2) → f 4 = pt w.heap.size → f 5 = pt w1.heap.size → f 6 = pt w2.heap.size →
    Da Tryz.prog Tryz.f56 (fun v w' => RunAns spcR aggV [.slice none 0 0, .slice none 0 0] (PRes .spec t) w w' v) (fun _ _ => False) (.panic (errV t.length l)) f [{ target := .fn (.func 88) #[pt w.heap.size, pt w1.heap.size, pt w2.heap.size], args := #[] }] w10 := by
   rintro f w10 l hr hk ⟨L1, g1, hL1⟩ e4 e5 e6
   obtain ⟨e, p, he1, he2, he0⟩ := errV_ne (α := NT.T .spec) t.length l
   rw [he1]
   refine finD_pan_def (a := []) (c := [pt w.heap.size, pt w1.heap.size, pt w2.heap.size]) (recPan_S w10 _ _ _ L1 _ _ e (p : Int) g1 hL1 (f2.keep hk (by simp; omega)) (f3.keep hk (by simp; omega)) (by omega) (by omega) (by omega)) fun w11 h11 => ?_
   obtain ⟨k11, g1', g2', g3'⟩ := h11
   refine DQ e4 rfl g1'.cells (BL e5 (g2'.cell rfl) (BL e6 (g3'.cell rfl) ?_))
   have hp := hpr hr
   rw [he2] at hp
   exact ⟨[.slice none 0 0, .slice none 0 0], e, p, rfl, (k9.keep hk (by simp; omega)).keep k11 (by simp; omega), .inr ⟨p, hp, he0, rfl, rfl⟩⟩
  refine AA (Cr rfl (AO rfl ?_))
  refine CM (v1 := []) (v2 := []) (vs := [pt w8.heap.size]) rfl (hI ⟨w3.heap.size, w8.heap.size, t.length, mp, mi⟩ ts.length w9 ts hW (Nat.le_refl _)) rfl ?_ ?_
  rotate_left
  ·rintro ch w10 ⟨k10, l, r10, rfl⟩
   repeat refine nx rfl ?_
   exact hpan _ w10 l (Run.callE r10) (k10.mono (by simp)) ⟨_, f1.keep k10 (by simp; omega), rfl⟩ rfl rfl rfl
  rintro v w10 ⟨k10, a, ts', r10, q10, c, rfl, fit⟩
  have hcl : c.length = 2 := Rp.len spcR fit
  have hco := Rp.one spcR fit
  have g1 := f1.keep k10 (by simp; omega)
  have g2 := f2.keep k10 (by simp; omega)
  have g3 := f3.keep k10 (by simp; omega)
  have z10 := k10.size
  refine AZ (cs := c) rfl rfl hcl hco g1 (by simp) (fun w11 p11 => ?_)
  have g1' : Blk w11 w.heap.size 28 c := by
   have := p11.blk
   rw [Bc [.slice none 0 0, .slice none 0 0] c (by rw [hcl]; rfl)] at this
   exact this
  have g2' := g2.keep p11.keep (by simp; omega)
  have g3' := g3.keep p11.keep (by simp; omega)
  have fit' := Rp.keep spcR fit p11.keep (fun b hb => by simp [fresh] at hb ⊢; omega)
  have k911 : Keep [w8.heap.size, w.heap.size] w9 w11 := (k10.mono (by simp)).trans (p11.keep.mono (Y := [w8.heap.size, w.heap.size]) (by simp)) (by simp)
  have z11 := p11.size
  have hE : w.heap.size < w8.heap.size := by omega
  obtain ⟨⟨ta', tc', hb10, hs10⟩, hq3, hq4, hq5, hq6, hq7⟩ := id q10
  have hb11 := hb10.keep p11.keep (by simp; omega)
  repeat refine nx rfl ?_
  cases ts' with
  | cons x l =>
   have hl : (x :: l).length = l.length + 1 := rfl
   (refine AA (AO rfl (AG rfl (AD rfl (AF rfl (Blk.cell (by assumption) (by rfl)) ?_)))) <;> refine Ap rfl (DF rfl rfl (by omega) ?_))
   repeat refine nx rfl ?_
   refine AA (AO rfl ?_)
   have q11 : PSt w11 ⟨w3.heap.size, w8.heap.size, t.length, mp, mi⟩ (x :: l) := ⟨⟨ta', tc', hb11, hs10.keep p11.keep (fun b hb => by have : w3.heap.size ≤ b := hb.1; simp; omega)⟩, hq3.keep p11.keep (by simp; omega), hq4.keep p11.keep (by simp; omega), hq5, hq6, hq7⟩
   refine Ac (wrong_ok ⟨w3.heap.size, w8.heap.size, t.length, mp, mi⟩ w11 (x :: l) q11) rfl (R := fun _ _ => False) ?_ ?_
   ·rintro v w2 hh; exact hh.elim
   ·rintro ch w2 ⟨rfl, rfl⟩
    repeat refine nx rfl ?_
    exact hpan _ w2 (x :: l) (Run.call r10 (Run.look (Run.fail _))) k911 ⟨_, g1', hcl⟩ rfl rfl rfl
  | nil =>
   have hl : ([] : List Tok).length = 0 := rfl
   (refine AA (AO rfl (AG rfl (AD rfl (AF rfl (Blk.cell (by assumption) (by rfl)) ?_)))) <;> refine Ap rfl (DH rfl rfl (by omega) ?_))
   repeat first | refine nx rfl ?_ | refine nf rfl ?_
   refine AA (AV rfl g1' hcl ?_)
   refine AZ (cs := c) rfl rfl hcl hco g1' (by omega) (fun w12 p12 => ?_)
   have i1 : Blk w12 w.heap.size 28 c := by
    have := p12.blk
    rw [Bc c c rfl] at this
    exact this
   refine Ah rfl rfl rfl (g2'.keep p12.keep (by simp; omega)) (by simp) (fun w13 p13 => ?_)
   refine Ah rfl rfl rfl ((g3'.keep p12.keep (by simp; omega)).keep p13.keep (by simp; omega)) (by simp) (fun w14 p14 => ?_)
   have z12 := p12.size
   have z13 := p13.size
   have j1 := (i1.keep p13.keep (by simp; omega)).keep p14.keep (by simp; omega)
   have j2 : Blk w14 w1.heap.size 44 [.int .i64 0] := p13.blk.keep p14.keep (by simp; omega)
   have j3 : Blk w14 w2.heap.size 3 [.int .i64 (-1)] := p14.blk
   have k14 : Ext w w14 := (((k9.keep k911 (by simp; omega)).keep p12.keep (by simp)).keep p13.keep (by simp; omega)).keep p14.keep (by simp; omega)
   have fit14 := Rp.keep spcR (Rp.keep spcR (Rp.keep spcR fit' p12.keep (fun b hb => by simp [fresh] at hb ⊢; omega)) p13.keep (fun b hb => by simp [fresh] at hb ⊢; omega)) p14.keep (fun b hb => by simp [fresh] at hb ⊢; omega)
   repeat refine nx rfl ?_
   refine finD_ret_def (a := []) (c := [pt w.heap.size, pt w1.heap.size, pt w2.heap.size]) (recRet_S _ _ _ _) fun w15 k15 => ?_
   refine DQ rfl hcl (j1.keep k15 (by simp)).cells (BL rfl ((j2.keep k15 (by simp)).cell rfl) (BL rfl ((j3.keep k15 (by simp)).cell rfl) ?_))
   have hp := hpr (Run.call r10 (Run.look (Run.ret _ _)))
   exact ⟨c, 0, -1, rfl, k14.trans k15, .inl ⟨a, hp, rfl, rfl, Rp.mono spcR (Rp.ext spcR fit14 k15) fun b hb => by simp only [fresh] at hb ⊢; omega⟩⟩
 ·(refine AA (AF rfl (Blk.cell (by assumption) (by rfl)) ?_) <;> refine W_neqT rfl rfl (by omega) ?_)
  repeat refine nx rfl ?_
  refine A3 (.read 0 (.read 1 (.read 2 (.alt 3 (.alt 4 (.alt 5 .done .stop) .stop) .stop)))) BA (by kernel_rfl) (fun wd kd ed => ⟨fun W => Cells W w.heap.size 0 [.slice none 0 0, .slice none 0 0] ∧ W.cell? ⟨w1.heap.size, 0, none⟩ = some (.int .i64 e) ∧ W.cell? ⟨w2.heap.size, 0, none⟩ = some (.int .i64 (p : Int)), ?_, ?_⟩)
  ·exact ⟨(d1.keep kd (by simp)).cells, (d2.keep kd (by simp)).cell rfl, (d3.keep kd (by simp)).cell rfl⟩
  have fc0 : ∀ W : World, (Cells W w.heap.size 0 [.slice none 0 0, .slice none 0 0] ∧ W.cell? ⟨w1.heap.size, 0, none⟩ = some (.int .i64 e) ∧ W.cell? ⟨w2.heap.size, 0, none⟩ = some (.int .i64 (p : Int))) → Cells W w.heap.size 0 [.slice none 0 0, .slice none 0 0] := fun W h => h.1
  have fc1 : ∀ W : World, (Cells W w.heap.size 0 [.slice none 0 0, .slice none 0 0] ∧ W.cell? ⟨w1.heap.size, 0, none⟩ = some (.int .i64 e) ∧ W.cell? ⟨w2.heap.size, 0, none⟩ = some (.int .i64 (p : Int))) → W.cell? ⟨w1.heap.size, 0, none⟩ = some (.int .i64 e) := fun W h => h.2.1
  have fc2 : ∀ W : World, (Cells W w.heap.size 0 [.slice none 0 0, .slice none 0 0] ∧ W.cell? ⟨w1.heap.size, 0, none⟩ = some (.int .i64 e) ∧ W.cell? ⟨w2.heap.size, 0, none⟩ = some (.int .i64 (p : Int))) → W.cell? ⟨w2.heap.size, 0, none⟩ = some (.int .i64 (p : Int)) := fun W h => h.2.2
  replace d1 := d1.keep kd (by simp)
  replace d2 := d2.keep kd (by simp)
  replace d3 := d3.keep kd (by simp)
  ((apply D_R rfl rfl; (intro W hW; refine Ad rfl (by rfl) (fc0 W hW) ?_; exact Z3)) <;> refine D_R rfl rfl (fun W hW => AF rfl (fc1 W hW) Z3) (D_R rfl rfl (fun W hW => AF rfl (fc2 W hW) Z3) ?_))
  refine D_E rfl ?_
  refine AZ (cs := [.slice none 0 0, .slice none 0 0]) rfl rfl rfl (A5 rfl) d1 (by simp) (fun wa pa => ?_)
  have a1 : Blk wa w.heap.size 28 [.slice none 0 0, .slice none 0 0] := pa.blk
  have a2 := d2.keep pa.keep (by simp; omega)
  have a3 := d3.keep pa.keep (by simp; omega)
  refine AJ ⟨_, fun _ h => h, ⟨a1.cells, a2.cell rfl, a3.cell rfl⟩, ?_⟩
  refine D_E rfl ?_
  refine Ah rfl rfl rfl a2 (by simp) (fun wb pb => ?_)
  have b1' := a1.keep pb.keep (by simp; omega)
  have b2' : Blk wb w1.heap.size 44 [.int .i64 e] := pb.blk
  have b3' := a3.keep pb.keep (by simp; omega)
  refine AJ ⟨_, fun _ h => h, ⟨b1'.cells, b2'.cell rfl, b3'.cell rfl⟩, ?_⟩
  refine D_E rfl ?_
  refine Ah rfl rfl rfl b3' (by simp) (fun wc pc => ?_)
  have c1' := b1'.keep pc.keep (by simp; omega)
  have c2' := b2'.keep pc.keep (by simp; omega)
  have c3' : Blk wc w2.heap.size 3 [.int .i64 (p : Int)] := pc.blk
  refine AJ ⟨_, fun _ h => h, ⟨c1'.cells, c2'.cell rfl, c3'.cell rfl⟩, ?_⟩
  refine Ay ?_
  repeat refine nx rfl ?_
  refine finD_ret_nil (DQ rfl rfl c1'.cells (BL rfl (c2'.cell rfl) (BL rfl (c3'.cell rfl) ?_)))
  refine ⟨[.slice none 0 0, .slice none 0 0], e, p, rfl, (((k6.trans kd).keep pa.keep (by simp)).keep pb.keep (by simp; omega)).keep pc.keep (by simp; omega), .inr ⟨p, ?_, he, rfl, rfl⟩⟩
  unfold PRes
  rw [hm]
theorem run_D (w : World) (t : List UInt8) (hG : GK w) (hI : ∀ E N, ItemR edtR aggV E N 67 (body .edit)) : Fn Tryz.prog 66 [AK t, .func (.func 67) #[] #[]] w (fun v w' => RunAns edtR aggV [.int .i64 0, AK [], AK [], .int .i64 0, .int .i64 0, AK [], .int .i64 0, .int .i64 0, .slice none 0 0] (PRes .edit t) w w' v) := by
 have hgs := hG.gv.size
 refine fn_of_wcD Tryz.func66 rfl Tryz.ntmps66 (Nat.le_of_ble_eq_true rfl) (by kernel_rfl) ?_
 repeat refine nx rfl ?_
 refine AA ?_
 refine Av (fun w1 n1 => ?_)
 refine Av (fun w2 n2 => ?_)
 refine Av (fun w3 n3 => ?_)
 have z1 := n1.size
 have z2 := n2.size
 have z3 := n3.size
 have b1 : Blk w3 w.heap.size 32 [.int .i64 0, AK [], AK [], .int .i64 0, .int .i64 0, AK [], .int .i64 0, .int .i64 0, .slice none 0 0] := (n1.blk.keep n2.keep (by simp)).keep n3.keep (by simp)
 have b2 : Blk w3 w1.heap.size 44 [.int .i64 0] := n2.blk.keep n3.keep (by simp)
 have b3 : Blk w3 w2.heap.size 3 [.int .i64 0] := n3.blk
 have k3 : Ext w w3 := (n1.keep.trans n2.keep).trans n3.keep
 repeat refine nx rfl ?_
 refine AA (AU rfl ?_)
 refine AS (lexF w3 t (hG.gv.ext k3)) rfl ?_
 rintro v w4 ⟨ta, tc, e, q, ts, rfl, k4, hT, hm⟩
 have z4 := k4.size
 have c1 := b1.keep k4 (by simp)
 have c2 := b2.keep k4 (by simp)
 have c3 := b3.keep k4 (by simp)
 refine Bf rfl (Ab rfl rfl (Ab rfl rfl (Ab rfl rfl (AC (Aa rfl ?_)))))
 refine Ah rfl rfl rfl c2 (by simp) (fun w5 p5 => ?_)
 refine Ah rfl rfl rfl (c3.keep p5.keep (by simp; omega)) (by simp) (fun w6 p6 => ?_)
 have z5 := p5.size
 have z6 := p6.size
 have d1 : Blk w6 w.heap.size 32 [.int .i64 0, AK [], AK [], .int .i64 0, .int .i64 0, AK [], .int .i64 0, .int .i64 0, .slice none 0 0] := (c1.keep p5.keep (by simp; omega)).keep p6.keep (by simp; omega)
 have d2 : Blk w6 w1.heap.size 44 [.int .i64 e] := p5.blk.keep p6.keep (by simp; omega)
 have d3 : Blk w6 w2.heap.size 3 [.int .i64 q] := p6.blk
 have k6 : Ext w w6 := ((k3.trans k4).keep p5.keep (by simp; omega)).keep p6.keep (by simp; omega)
 repeat refine nx rfl ?_
 rcases hm with ⟨hm, rfl, rfl⟩ | ⟨p, hm, he, rfl, rfl⟩
 ·obtain ⟨ht6, ht2, hwf⟩ := lexM_toks hm
  (refine AA (AF rfl (Blk.cell (by assumption) (by rfl)) ?_) <;> refine Di rfl rfl (by omega) ?_)
  repeat first | refine nx rfl ?_ | refine nf rfl ?_
  refine AA (BI rfl rfl ?_)
  refine W_defer (v1 := []) (v2 := [pt w.heap.size, pt w1.heap.size, pt w2.heap.size]) (vs := []) rfl rfl ?_
  repeat refine nx rfl ?_
  refine AA (Aa rfl (AU rfl (Aw rfl ?_)))
  refine AS (prefixes_ok w6) rfl ?_
  rintro v w7 ⟨mp, rfl, hmp, k7, hpre⟩
  refine AS (infixes_ok w7) rfl ?_
  rintro v w8 ⟨mi, rfl, hmi, k8, hinf⟩
  have hpl := hpre.lt
  have hil := hinf.lt
  have zk7 := k7.size
  have zk8 := k8.size
  refine Af (by rfl) (by rfl) ?_
  refine Bh (L := [.slice ta ts.length tc, .int .i64 (t.length : Int), .map (some mp), .map (some mi)]) rfl (fun w9 n9 => ?_)
  have z9 := n9.size
  have k9 : Ext w w9 := ((k6.trans k7).trans k8).trans n9.keep
  refine AC (AO rfl ?_)
  repeat refine nx rfl ?_
  have hT9 := ((((hT.keep p5.keep (fun b hb => by simp; omega)).keep p6.keep (fun b hb => by simp; omega)).ext k7).ext k8).ext n9.keep
  have f1 := (((d1.keep k7 (by simp)).keep k8 (by simp)).keep n9.keep (by simp))
  have f2 := (((d2.keep k7 (by simp)).keep k8 (by simp)).keep n9.keep (by simp))
  have f3 := (((d3.keep k7 (by simp)).keep k8 (by simp)).keep n9.keep (by simp))
  have hP : PSt w9 ⟨w3.heap.size, w8.heap.size, t.length, mp, mi⟩ ts := ⟨⟨ta, tc, n9.blk, hT9.mono fun b hb => by have := hb.1; have := hb.2; exact ⟨by show w3.heap.size ≤ b; omega, by show b < w8.heap.size; omega⟩⟩, (hpre.keep k8 (by simp)).keep n9.keep (by simp), hinf.keep n9.keep (by simp), ⟨by show mp < w8.heap.size; omega, hil⟩, hwf, ht2⟩
  have hW : PW w9 ⟨w3.heap.size, w8.heap.size, t.length, mp, mi⟩ ts := ⟨hP, hG.ext k9, by show 10 ≤ w8.heap.size; omega⟩
  have hpr : ∀ {r : Ans (NT.T .edit)}, Run (whole .edit) ts r → PRes .edit t (errOf t.length r) := fun {r} hr => by unfold PRes; rw [hm]; exact ⟨r, hr, rfl⟩
  have hpan : ∀ (f : Fr) (w10 : World) (l : List Tok), Run (whole .edit) ts (.error l) → Keep [w8.heap.size, w.heap.size] w9 w10 → (∃ L1, Blk w10 w.heap.size 32 L1 ∧ L1.length = 9) → f 4 = pt w.heap.size → f 5 = pt w1.heap.size → f 6 = pt w2.heap.size →
    Da Tryz.prog Tryz.f66 (fun v w' => RunAns edtR aggV [.int .i64 0, AK [], AK [], .int .i64 0, .int .i64 0, AK [], .int .i64 0, .int .i64 0, .slice none 0 0] (PRes .edit t) w w' v) (fun _ _ => False) (.panic (errV t.length l)) f [{ target := .fn (.func 107) #[pt w.heap.size, pt w1.heap.size, pt w2.heap.size], args := #[] }] w10 := by
   rintro f w10 l hr hk ⟨L1, g1, hL1⟩ e4 e5 e6
   obtain ⟨e, p, he1, he2, he0⟩ := errV_ne (α := NT.T .edit) t.length l
   rw [he1]
   refine finD_pan_def (a := []) (c := [pt w.heap.size, pt w1.heap.size, pt w2.heap.size]) (recPan_D w10 _ _ _ L1 _ _ e (p : Int) g1 hL1 (f2.keep hk (by simp; omega)) (f3.keep hk (by simp; omega)) (by omega) (by omega) (by omega)) fun w11 h11 => ?_
   obtain ⟨k11, g1', g2', g3'⟩ := h11
   refine DQ e4 rfl g1'.cells (BL e5 (g2'.cell rfl) (BL e6 (g3'.cell rfl) ?_))
   have hp := hpr hr
   rw [he2] at hp
   exact ⟨[.int .i64 0, AK [], AK [], .int .i64 0, .int .i64 0, AK [], .int .i64 0, .int .i64 0, .slice none 0 0], e, p, rfl, (k9.keep hk (by simp; omega)).keep k11 (by simp; omega), .inr ⟨p, hp, he0, rfl, rfl⟩⟩
  refine AA (Cr rfl (AO rfl ?_))
  refine CM (v1 := []) (v2 := []) (vs := [pt w8.heap.size]) rfl (hI ⟨w3.heap.size, w8.heap.size, t.length, mp, mi⟩ ts.length w9 ts hW (Nat.le_refl _)) rfl ?_ ?_
  rotate_left
  ·rintro ch w10 ⟨k10, l, r10, rfl⟩
   repeat refine nx rfl ?_
   exact hpan _ w10 l (Run.callE r10) (k10.mono (by simp)) ⟨_, f1.keep k10 (by simp; omega), rfl⟩ rfl rfl rfl
  rintro v w10 ⟨k10, a, ts', r10, q10, c, rfl, fit⟩
  have hcl : c.length = 9 := Rp.len edtR fit
  have hco := Rp.one edtR fit
  have g1 := f1.keep k10 (by simp; omega)
  have g2 := f2.keep k10 (by simp; omega)
  have g3 := f3.keep k10 (by simp; omega)
  have z10 := k10.size
  refine AZ (cs := c) rfl rfl hcl hco g1 (by simp) (fun w11 p11 => ?_)
  have g1' : Blk w11 w.heap.size 32 c := by
   have := p11.blk
   rw [Bc [.int .i64 0, AK [], AK [], .int .i64 0, .int .i64 0, AK [], .int .i64 0, .int .i64 0, .slice none 0 0] c (by rw [hcl]; rfl)] at this
   exact this
  have g2' := g2.keep p11.keep (by simp; omega)
  have g3' := g3.keep p11.keep (by simp; omega)
  have fit' := Rp.keep edtR fit p11.keep (fun b hb => by simp [fresh] at hb ⊢; omega)
  have k911 : Keep [w8.heap.size, w.heap.size] w9 w11 := (k10.mono (by simp)).trans (p11.keep.mono (Y := [w8.heap.size, w.heap.size]) (by simp)) (by simp)
  have z11 := p11.size
  have hE : w.heap.size < w8.heap.size := by omega
  obtain ⟨⟨ta', tc', hb10, hs10⟩, hq3, hq4, hq5, hq6, hq7⟩ := id q10
  have hb11 := hb10.keep p11.keep (by simp; omega)
  repeat refine nx rfl ?_
  cases ts' with
  | cons x l =>
   have hl : (x :: l).length = l.length + 1 := rfl
   (refine AA (AO rfl (AG rfl (AD rfl (AF rfl (Blk.cell (by assumption) (by rfl)) ?_)))) <;> refine Ap rfl (DF rfl rfl (by omega) ?_))
   repeat refine nx rfl ?_
   refine AA (AO rfl ?_)
   have q11 : PSt w11 ⟨w3.heap.size, w8.heap.size, t.length, mp, mi⟩ (x :: l) := ⟨⟨ta', tc', hb11, hs10.keep p11.keep (fun b hb => by have : w3.heap.size ≤ b := hb.1; simp; omega)⟩, hq3.keep p11.keep (by simp; omega), hq4.keep p11.keep (by simp; omega), hq5, hq6, hq7⟩
   refine Ac (wrong_ok ⟨w3.heap.size, w8.heap.size, t.length, mp, mi⟩ w11 (x :: l) q11) rfl (R := fun _ _ => False) ?_ ?_
   ·rintro v w2 hh; exact hh.elim
   ·rintro ch w2 ⟨rfl, rfl⟩
    repeat refine nx rfl ?_
    exact hpan _ w2 (x :: l) (Run.call r10 (Run.look (Run.fail _))) k911 ⟨_, g1', hcl⟩ rfl rfl rfl
  | nil =>
   have hl : ([] : List Tok).length = 0 := rfl
   (refine AA (AO rfl (AG rfl (AD rfl (AF rfl (Blk.cell (by assumption) (by rfl)) ?_)))) <;> refine Ap rfl (DH rfl rfl (by omega) ?_))
   repeat first | refine nx rfl ?_ | refine nf rfl ?_
   refine AA (AV rfl g1' hcl ?_)
   refine AZ (cs := c) rfl rfl hcl hco g1' (by omega) (fun w12 p12 => ?_)
   have i1 : Blk w12 w.heap.size 32 c := by
    have := p12.blk
    rw [Bc c c rfl] at this
    exact this
   refine Ah rfl rfl rfl (g2'.keep p12.keep (by simp; omega)) (by simp) (fun w13 p13 => ?_)
   refine Ah rfl rfl rfl ((g3'.keep p12.keep (by simp; omega)).keep p13.keep (by simp; omega)) (by simp) (fun w14 p14 => ?_)
   have z12 := p12.size
   have z13 := p13.size
   have j1 := (i1.keep p13.keep (by simp; omega)).keep p14.keep (by simp; omega)
   have j2 : Blk w14 w1.heap.size 44 [.int .i64 0] := p13.blk.keep p14.keep (by simp; omega)
   have j3 : Blk w14 w2.heap.size 3 [.int .i64 (-1)] := p14.blk
   have k14 : Ext w w14 := (((k9.keep k911 (by simp; omega)).keep p12.keep (by simp)).keep p13.keep (by simp; omega)).keep p14.keep (by simp; omega)
   have fit14 := Rp.keep edtR (Rp.keep edtR (Rp.keep edtR fit' p12.keep (fun b hb => by simp [fresh] at hb ⊢; omega)) p13.keep (fun b hb => by simp [fresh] at hb ⊢; omega)) p14.keep (fun b hb => by simp [fresh] at hb ⊢; omega)
   repeat refine nx rfl ?_
   refine finD_ret_def (a := []) (c := [pt w.heap.size, pt w1.heap.size, pt w2.heap.size]) (recRet_D _ _ _ _) fun w15 k15 => ?_
   refine DQ rfl hcl (j1.keep k15 (by simp)).cells (BL rfl ((j2.keep k15 (by simp)).cell rfl) (BL rfl ((j3.keep k15 (by simp)).cell rfl) ?_))
   have hp := hpr (Run.call r10 (Run.look (Run.ret _ _)))
   exact ⟨c, 0, -1, rfl, k14.trans k15, .inl ⟨a, hp, rfl, rfl, Rp.mono edtR (Rp.ext edtR fit14 k15) fun b hb => by simp only [fresh] at hb ⊢; omega⟩⟩
 ·(refine AA (AF rfl (Blk.cell (by assumption) (by rfl)) ?_) <;> refine W_neqT rfl rfl (by omega) ?_)
  repeat refine nx rfl ?_
  refine A3 (.read 0 (.read 1 (.read 2 (.alt 3 (.alt 4 (.alt 5 .done .stop) .stop) .stop)))) BA (by kernel_rfl) (fun wd kd ed => ⟨fun W => Cells W w.heap.size 0 [.int .i64 0, AK [], AK [], .int .i64 0, .int .i64 0, AK [], .int .i64 0, .int .i64 0, .slice none 0 0] ∧ W.cell? ⟨w1.heap.size, 0, none⟩ = some (.int .i64 e) ∧ W.cell? ⟨w2.heap.size, 0, none⟩ = some (.int .i64 (p : Int)), ?_, ?_⟩)
  ·exact ⟨(d1.keep kd (by simp)).cells, (d2.keep kd (by simp)).cell rfl, (d3.keep kd (by simp)).cell rfl⟩
  have fc0 : ∀ W : World, (Cells W w.heap.size 0 [.int .i64 0, AK [], AK [], .int .i64 0, .int .i64 0, AK [], .int .i64 0, .int .i64 0, .slice none 0 0] ∧ W.cell? ⟨w1.heap.size, 0, none⟩ = some (.int .i64 e) ∧ W.cell? ⟨w2.heap.size, 0, none⟩ = some (.int .i64 (p : Int))) → Cells W w.heap.size 0 [.int .i64 0, AK [], AK [], .int .i64 0, .int .i64 0, AK [], .int .i64 0, .int .i64 0, .slice none 0 0] := fun W h => h.1
  have fc1 : ∀ W : World, (Cells W w.heap.size 0 [.int .i64 0, AK [], AK [], .int .i64 0, .int .i64 0, AK [], .int .i64 0, .int .i64 0, .slice none 0 0] ∧ W.cell? ⟨w1.heap.size, 0, none⟩ = some (.int .i64 e) ∧ W.cell? ⟨w2.heap.size, 0, none⟩ = some (.int .i64 (p : Int))) → W.cell? ⟨w1.heap.size, 0, none⟩ = some (.int .i64 e) := fun W h => h.2.1
  have fc2 : ∀ W : World, (Cells W w.heap.size 0 [.int .i64 0, AK [], AK [], .int .i64 0, .int .i64 0, AK [], .int .i64 0, .int .i64 0, .slice none 0 0] ∧ W.cell? ⟨w1.heap.size, 0, none⟩ = some (.int .i64 e) ∧ W.cell? ⟨w2.heap.size, 0, none⟩ = some (.int .i64 (p : Int))) → W.cell? ⟨w2.heap.size, 0, none⟩ = some (.int .i64 (p : Int)) := fun W h => h.2.2
  replace d1 := d1.keep kd (by simp)
  replace d2 := d2.keep kd (by simp)
  replace d3 := d3.keep kd (by simp)
  ((apply D_R rfl rfl; (intro W hW; refine Ad rfl (by rfl) (fc0 W hW) ?_; exact Z3)) <;> refine D_R rfl rfl (fun W hW => AF rfl (fc1 W hW) Z3) (D_R rfl rfl (fun W hW => AF rfl (fc2 W hW) Z3) ?_))
  refine D_E rfl ?_
  refine AZ (cs := [.int .i64 0, AK [], AK [], .int .i64 0, .int .i64 0, AK [], .int .i64 0, .int .i64 0, .slice none 0 0]) rfl rfl rfl (A5 rfl) d1 (by simp) (fun wa pa => ?_)
  have a1 : Blk wa w.heap.size 32 [.int .i64 0, AK [], AK [], .int .i64 0, .int .i64 0, AK [], .int .i64 0, .int .i64 0, .slice none 0 0] := pa.blk
  have a2 := d2.keep pa.keep (by simp; omega)
  have a3 := d3.keep pa.keep (by simp; omega)
  refine AJ ⟨_, fun _ h => h, ⟨a1.cells, a2.cell rfl, a3.cell rfl⟩, ?_⟩
  refine D_E rfl ?_
  refine Ah rfl rfl rfl a2 (by simp) (fun wb pb => ?_)
  have b1' := a1.keep pb.keep (by simp; omega)
  have b2' : Blk wb w1.heap.size 44 [.int .i64 e] := pb.blk
  have b3' := a3.keep pb.keep (by simp; omega)
  refine AJ ⟨_, fun _ h => h, ⟨b1'.cells, b2'.cell rfl, b3'.cell rfl⟩, ?_⟩
  refine D_E rfl ?_
  refine Ah rfl rfl rfl b3' (by simp) (fun wc pc => ?_)
  have c1' := b1'.keep pc.keep (by simp; omega)
  have c2' := b2'.keep pc.keep (by simp; omega)
  have c3' : Blk wc w2.heap.size 3 [.int .i64 (p : Int)] := pc.blk
  refine AJ ⟨_, fun _ h => h, ⟨c1'.cells, c2'.cell rfl, c3'.cell rfl⟩, ?_⟩
  refine Ay ?_
  repeat refine nx rfl ?_
  refine finD_ret_nil (DQ rfl rfl c1'.cells (BL rfl (c2'.cell rfl) (BL rfl (c3'.cell rfl) ?_)))
  refine ⟨[.int .i64 0, AK [], AK [], .int .i64 0, .int .i64 0, AK [], .int .i64 0, .int .i64 0, .slice none 0 0], e, p, rfl, (((k6.trans kd).keep pa.keep (by simp)).keep pb.keep (by simp; omega)).keep pc.keep (by simp; omega), .inr ⟨p, ?_, he, rfl, rfl⟩⟩
  unfold PRes
  rw [hm]
theorem item_fml (E : Env) (N : Nat) : ItemR fmlR aggV E N 65 (body .formula) := by
 intro w ts h hN
 refine FnP.mono ((formulas_ok E N).2.2.2 w ts h hN) ?_ fun _ _ h => h
 rintro v w' ⟨k, a, ts', r, q, f⟩
 obtain ⟨c, rfl, hc, _⟩ := f.cells
 exact ⟨k, a, ts', r, q, c, rfl, hc, f⟩
theorem parse_F (w : World) (t : List UInt8) (hG : GK w) : Fn Tryz.prog 30 [AK t] w (fun v w' => RunAns fmlR aggV [.int .i64 0, AK [], .int .i64 0, .int .i64 0, .slice none 0 0] (PRes .formula t) w w' v) := by
 refine Ae Tryz.func30 rfl Tryz.ntmps30 (Nat.le_of_ble_eq_true rfl) (by kernel_rfl) ?_
 repeat refine nx rfl ?_
 refine AA ?_
 refine Av (fun w1 n1 => ?_)
 have b1 : Blk w1 w.heap.size 24 [.int .i64 0, AK [], .int .i64 0, .int .i64 0, .slice none 0 0] := n1.blk
 have z1 := n1.size
 refine AC (AH rfl (AC (AH rfl ?_)))
 repeat refine nx rfl ?_
 refine AA (AU rfl ?_)
 refine AS (run_F w1 t (hG.ext n1.keep) item_fml) rfl ?_
 rintro v w2 ⟨c, e, q, rfl, k2, hr⟩
 have hc : c.length = 5 ∧ oneC c := by
  rcases hr with ⟨a, _, _, _, fit⟩ | ⟨p, _, _, _, rfl⟩
  ·exact ⟨Rp.len fmlR fit, Rp.one fmlR fit⟩
  ·exact ⟨rfl, A5 rfl⟩
 have b2 := b1.keep k2 (by simp)
 refine Ab rfl rfl (Ab rfl rfl (Ab rfl rfl ?_))
 refine AZ (cs := c) rfl rfl hc.1 hc.2 b2 (by simp) (fun w3 p3 => ?_)
 have b3 : Blk w3 w.heap.size 24 c := by
  have := p3.blk
  rw [Bc [.int .i64 0, AK [], .int .i64 0, .int .i64 0, .slice none 0 0] c (by rw [hc.1]; rfl)] at this
  exact this
 refine AC (AH rfl (AC (AH rfl ?_)))
 repeat refine nx rfl ?_
 refine fin_retA2 rfl rfl hc.1 b3.cells ⟨c, e, q, rfl, (n1.keep.trans k2).keep p3.keep (by simp), ?_⟩
 rcases hr with ⟨a, h1, h2, h3, fit⟩ | h
 ·exact .inl ⟨a, h1, h2, h3, Rp.mono fmlR (Rp.keep fmlR fit p3.keep (fun b hb => by simp [fresh] at hb ⊢; omega)) (fun b hb => by simp only [fresh] at hb ⊢; omega)⟩
 ·exact .inr h
theorem parse_S (w : World) (t : List UInt8) (hG : GK w) : Fn Tryz.prog 23 [AK t] w (fun v w' => RunAns spcR aggV [.slice none 0 0, .slice none 0 0] (PRes .spec t) w w' v) := by
 refine Ae Tryz.func23 rfl Tryz.ntmps23 (Nat.le_of_ble_eq_true rfl) (by kernel_rfl) ?_
 repeat refine nx rfl ?_
 refine AA ?_
 refine Av (fun w1 n1 => ?_)
 have b1 : Blk w1 w.heap.size 28 [.slice none 0 0, .slice none 0 0] := n1.blk
 have z1 := n1.size
 refine AC (AH rfl (AC (AH rfl ?_)))
 repeat refine nx rfl ?_
 refine AA (AU rfl ?_)
 refine AS (run_S w1 t (hG.ext n1.keep) spec_ok) rfl ?_
 rintro v w2 ⟨c, e, q, rfl, k2, hr⟩
 have hc : c.length = 2 ∧ oneC c := by
  rcases hr with ⟨a, _, _, _, fit⟩ | ⟨p, _, _, _, rfl⟩
  ·exact ⟨Rp.len spcR fit, Rp.one spcR fit⟩
  ·exact ⟨rfl, A5 rfl⟩
 have b2 := b1.keep k2 (by simp)
 refine Ab rfl rfl (Ab rfl rfl (Ab rfl rfl ?_))
 refine AZ (cs := c) rfl rfl hc.1 hc.2 b2 (by simp) (fun w3 p3 => ?_)
 have b3 : Blk w3 w.heap.size 28 c := by
  have := p3.blk
  rw [Bc [.slice none 0 0, .slice none 0 0] c (by rw [hc.1]; rfl)] at this
  exact this
 refine AC (AH rfl (AC (AH rfl ?_)))
 repeat refine nx rfl ?_
 refine fin_retA2 rfl rfl hc.1 b3.cells ⟨c, e, q, rfl, (n1.keep.trans k2).keep p3.keep (by simp), ?_⟩
 rcases hr with ⟨a, h1, h2, h3, fit⟩ | h
 ·exact .inl ⟨a, h1, h2, h3, Rp.mono spcR (Rp.keep spcR fit p3.keep (fun b hb => by simp [fresh] at hb ⊢; omega)) (fun b hb => by simp only [fresh] at hb ⊢; omega)⟩
 ·exact .inr h
theorem parse_D (w : World) (t : List UInt8) (hG : GK w) : Fn Tryz.prog 31 [AK t] w (fun v w' => RunAns edtR aggV [.int .i64 0, AK [], AK [], .int .i64 0, .int .i64 0, AK [], .int .i64 0, .int .i64 0, .slice none 0 0] (PRes .edit t) w w' v) := by
 refine Ae Tryz.func31 rfl Tryz.ntmps31 (Nat.le_of_ble_eq_true rfl) (by kernel_rfl) ?_
 repeat refine nx rfl ?_
 refine AA ?_
 refine Av (fun w1 n1 => ?_)
 have b1 : Blk w1 w.heap.size 32 [.int .i64 0, AK [], AK [], .int .i64 0, .int .i64 0, AK [], .int .i64 0, .int .i64 0, .slice none 0 0] := n1.blk
 have z1 := n1.size
 refine AC (AH rfl (AC (AH rfl ?_)))
 repeat refine nx rfl ?_
 refine AA (AU rfl ?_)
 refine AS (run_D w1 t (hG.ext n1.keep) edit_ok) rfl ?_
 rintro v w2 ⟨c, e, q, rfl, k2, hr⟩
 have hc : c.length = 9 ∧ oneC c := by
  rcases hr with ⟨a, _, _, _, fit⟩ | ⟨p, _, _, _, rfl⟩
  ·exact ⟨Rp.len edtR fit, Rp.one edtR fit⟩
  ·exact ⟨rfl, A5 rfl⟩
 have b2 := b1.keep k2 (by simp)
 refine Ab rfl rfl (Ab rfl rfl (Ab rfl rfl ?_))
 refine AZ (cs := c) rfl rfl hc.1 hc.2 b2 (by simp) (fun w3 p3 => ?_)
 have b3 : Blk w3 w.heap.size 32 c := by
  have := p3.blk
  rw [Bc [.int .i64 0, AK [], AK [], .int .i64 0, .int .i64 0, AK [], .int .i64 0, .int .i64 0, .slice none 0 0] c (by rw [hc.1]; rfl)] at this
  exact this
 refine AC (AH rfl (AC (AH rfl ?_)))
 repeat refine nx rfl ?_
 refine fin_retA2 rfl rfl hc.1 b3.cells ⟨c, e, q, rfl, (n1.keep.trans k2).keep p3.keep (by simp), ?_⟩
 rcases hr with ⟨a, h1, h2, h3, fit⟩ | h
 ·exact .inl ⟨a, h1, h2, h3, Rp.mono edtR (Rp.keep edtR fit p3.keep (fun b hb => by simp [fresh] at hb ⊢; omega)) (fun b hb => by simp only [fresh] at hb ⊢; omega)⟩
 ·exact .inr h
end Go.Proofs.YtfcgdbmoncnibaaGreatDoor
namespace Go.Proofs.YtfcgdbmoncnibaaGreatDoor
open Go.RowKit
set_option linter.unusedVariables false
variable {mk : Prop} [MK mk]
abbrev Out (α : Type) := Except (Int × Nat) α
def Out.errno {α : Type} : Out α → Int
 | .ok _ => 0
 | .error e => e.1
def Out.loc {α : Type} : Out α → Int
 | .ok _ => -1
 | .error e => (e.2 : Int)
def Out.val {α : Type} (z : α) : Out α → α
 | .ok a => a
 | .error _ => z
def zeroS : Spc := ⟨[], []⟩
def zeroD : Edt := ⟨0, ⟨[], [], 0, DU⟩⟩
theorem zeroS_fits (ok : Nat → Prop) (w : World) : spcR.fits ok w [.slice none 0 0, .slice none 0 0] zeroS :=
 ⟨_, _, rfl, ⟨none, 0, [], rfl, ⟨none, 0, rfl, by simp [zeroS], by omega, fun _ => rfl, .inl rfl⟩, RsAt.nil⟩, ⟨none, 0, [], rfl, ⟨none, 0, rfl, by simp [zeroS], by omega, fun _ => rfl, .inl rfl⟩, RsAt.nil⟩⟩
theorem zeroF_fits (ok : Nat → Prop) (w : World) : fmlR.fits ok w [.int .i64 0, AK [], .int .i64 0, .int .i64 0, .slice none 0 0] DU := ⟨rfl, FAt.leaf _ _ _ _ _ _⟩
theorem zeroD_fits (ok : Nat → Prop) (w : World) : edtR.fits ok w [.int .i64 0, AK [], AK [], .int .i64 0, .int .i64 0, AK [], .int .i64 0, .int .i64 0, .slice none 0 0] zeroD :=
 ⟨_, rfl, _, rfl, rfl, FAt.leaf _ _ _ _ _ _⟩
theorem RunAns.out {α : Type} {R : Rp α} {z : List Value} {za : α} {P : Out α → Prop} {w w' : World} {v : Value} (h : RunAns R aggV z P w w' v) (hz : R.fits (fresh w) w' z za) :
  ∃ (o : Out α) (c : List Value), P o ∧ v = .tuple #[.agg c.toArray, .int .i64 o.errno, .int .i64 o.loc] ∧ Ext w w' ∧ R.fits (fresh w) w' c (o.val za) := by
 obtain ⟨c, e, q, rfl, k, h | h⟩ := h
 ·obtain ⟨a, h1, rfl, rfl, h4⟩ := h
  exact ⟨.ok a, c, h1, rfl, k, h4⟩
 ·obtain ⟨p, h1, h2, rfl, rfl⟩ := h
  exact ⟨.error (e, p), c, h1, rfl, k, hz⟩
def parseD (nt : NT) (t : List UInt8) (n : Nat) : Option (Out nt.T) := match DE t with
 | .error e => some (.error e)
 | .ok ts => (evG (evN n) (whole nt) ts).map (errOf t.length)
theorem PRes.of {nt : NT} {t : List UInt8} {n : Nat} {r : Out nt.T} (h : parseD nt t n = some r) : PRes nt t r := by
 unfold parseD at h
 unfold PRes
 cases hm : DE t with
 | error e => rw [hm] at h; exact (Option.some.inj h).symm
 | ok ts =>
  rw [hm] at h
  obtain ⟨a, h1, h2⟩ := Option.map_eq_some_iff.1 h
  exact ⟨a, ⟨n, h1⟩, h2.symm⟩
theorem madeSgn2 : (madeCells (Value.agg #[AK [], .bool false, .int .i64 0]).cells (2 * 3)).toList = [AK [], .bool false, .int .i64 0, AK [], .bool false, .int .i64 0] := by kernel_rfl
theorem FV.five {w : World} {v : Value} {f : Fml} (h : FV w v f) : ∃ c0 c1 c2 c3 c4, v = .agg [c0, c1, c2, c3, c4].toArray ∧ oneC [c0, c1, c2, c3, c4] := by
 obtain ⟨cs, rfl, hcs, hone⟩ := FAt.cells h
 obtain ⟨c0, c1, c2, c3, c4, rfl⟩ := Cx hcs
 exact ⟨_, _, _, _, _, rfl, hone⟩
theorem FV.fresh {w w' : World} {e : TypeId} {L : List (List Value)} {l : List Fml} (n : New w w' e L.flatten) (h : FsAt A1 w L l) (hl : l.length ≤ 1000000) : Sl A1 w' (.slice (some ⟨w.heap.size, 0, none⟩) l.length l.length) l.length L.flatten ∧ FsAt A1 w' L l := FsAt.fresh n h trivial hl
end Go.Proofs.YtfcgdbmoncnibaaGreatDoor
namespace Go.Proofs.YtfcgdbmoncnibaaGreatDoor
instance weakMK : MK False := ⟨trivial⟩
end Go.Proofs.YtfcgdbmoncnibaaGreatDoor
namespace Go.Proofs.YtfcgdbmoncnibaaGreatDoor
open Go.RowKit
set_option linter.unusedVariables false
theorem C1 : MK True := ⟨trivial⟩
theorem parseU_F (w : World) (t : List UInt8) (hG : GK w) : Fn Tryz.prog 30 [AK t] w fun v w' => ∃ (o : Out (NT.T .formula)) (c : List Value), PRes .formula t o ∧ v = .tuple #[.agg c.toArray, .int .i64 o.errno, .int .i64 o.loc] ∧ Ext w w' ∧ Rp.fits fmlR (fresh w) w' c (o.val DU) ∧ ∀ b, w.heap.size ≤ b → Unm w' b := by
 refine (@parse_F True C1 w t hG).mono ?_
 intro v w' hh
 obtain ⟨o, c, p, e, k, f⟩ := @RunAns.out True C1 _ _ _ DU _ _ _ _ hh (zeroF_fits _ _)
 exact ⟨o, c, p, e, @Keep.weak False weakMK C1 _ _ _ k, f, fun b hb => @Keep.fresh C1 _ _ _ k _ hb⟩
theorem parseU_S (w : World) (t : List UInt8) (hG : GK w) : Fn Tryz.prog 23 [AK t] w fun v w' => ∃ (o : Out (NT.T .spec)) (c : List Value), PRes .spec t o ∧ v = .tuple #[.agg c.toArray, .int .i64 o.errno, .int .i64 o.loc] ∧ Ext w w' ∧ Rp.fits spcR (fresh w) w' c (o.val zeroS) ∧ ∀ b, w.heap.size ≤ b → Unm w' b := by
 refine (@parse_S True C1 w t hG).mono ?_
 intro v w' hh
 obtain ⟨o, c, p, e, k, f⟩ := @RunAns.out True C1 _ _ _ zeroS _ _ _ _ hh (zeroS_fits _ _)
 exact ⟨o, c, p, e, @Keep.weak False weakMK C1 _ _ _ k, f, fun b hb => @Keep.fresh C1 _ _ _ k _ hb⟩
theorem parseU_D (w : World) (t : List UInt8) (hG : GK w) : Fn Tryz.prog 31 [AK t] w fun v w' => ∃ (o : Out (NT.T .edit)) (c : List Value), PRes .edit t o ∧ v = .tuple #[.agg c.toArray, .int .i64 o.errno, .int .i64 o.loc] ∧ Ext w w' ∧ Rp.fits edtR (fresh w) w' c (o.val zeroD) ∧ ∀ b, w.heap.size ≤ b → Unm w' b := by
 refine (@parse_D True C1 w t hG).mono ?_
 intro v w' hh
 obtain ⟨o, c, p, e, k, f⟩ := @RunAns.out True C1 _ _ _ zeroD _ _ _ _ hh (zeroD_fits _ _)
 exact ⟨o, c, p, e, @Keep.weak False weakMK C1 _ _ _ k, f, fun b hb => @Keep.fresh C1 _ _ _ k _ hb⟩
end Go.Proofs.YtfcgdbmoncnibaaGreatDoor
namespace Go.Proofs.YtfcgdbmoncnibaaGreatDoor
open Go.RowKit
set_option linter.unusedVariables false
variable {mk : Prop} [MK mk]
def fcC (f : Fml) (av : Value) : List Value := [.int .i64 f.op, AK f.name, .int .i64 f.val, .int .i64 f.bound, av]
def PF (ok : Nat → Prop) (w : World) (b o : Nat) (f : Fml) : Prop := ok b ∧ ∃ d : List Value, d.length = 5 ∧ Cells w b o d ∧ FAt ok w (.agg d.toArray) f
theorem PF.keep {ok : Nat → Prop} {X : List Nat} {w w' : World} {b o : Nat} {f : Fml} (h : PF ok w b o f) (k : Keep X w w') (hX : ∀ b, ok b → b ∉ X) : PF ok w' b o f := by
 obtain ⟨hb, d, hd, hc, hf⟩ := h
 exact ⟨hb, d, hd, hc.keep k (hX b hb), hf.keep k hX⟩
theorem PF.lt {ok : Nat → Prop} {w : World} {b o : Nat} {f : Fml} (h : PF ok w b o f) : PF (fun b => ok b ∧ b < w.heap.size) w b o f := by
 obtain ⟨hb, d, hd, hc, hf⟩ := h
 obtain ⟨d0, d1, d2, d3, d4, rfl⟩ := Cx hd
 exact ⟨⟨hb, World.block_lt_of_cell? w _ (hc 0 _ rfl)⟩, _, rfl, hc, hf.lt⟩
theorem PF.mono {ok ok' : Nat → Prop} {w : World} {b o : Nat} {f : Fml} (h : PF ok w b o f) (hk : ∀ b, ok b → ok' b) : PF ok' w b o f := by
 obtain ⟨hb, d, hd, hc, hf⟩ := h
 exact ⟨hk b hb, d, hd, hc, hf.mono hk⟩
theorem PF.form {ok : Nat → Prop} {w : World} {b o : Nat} {f : Fml} (h : PF ok w b o f) : ok b ∧ ∃ a c L, Cells w b o (fcC f (.slice a f.args.length c)) ∧ Sl ok w (.slice a f.args.length c) f.args.length L.flatten ∧ FsAt ok w L f.args := by
 obtain ⟨hb, d, hd, hc, hf⟩ := h
 obtain ⟨av, e, L, hS, h1, h2, h3⟩ := hf.form
 obtain ⟨a, c, rfl, _⟩ := id hS
 have e := congrArg Array.toList (Value.agg.inj e)
 have e : d = fcC f (.slice a f.args.length c) := e
 subst e
 exact ⟨hb, a, c, L, hc, hS, h1, h2, h3⟩
end Go.Proofs.YtfcgdbmoncnibaaGreatDoor
namespace Go.Proofs.YtfcgdbmoncnibaaGreatDoor
open Go.RowKit
set_option linter.unusedVariables false
variable {mk : Prop} [MK mk]
structure Form where
 least : Int
 most : Int
 val : Int
 bound : Int
 named : Bool
 past : Bool
 future : Bool
 loose : Bool
def formsL : List Form := [⟨0, 0, 0, 0, false, false, false, false⟩, ⟨0, 0, 0, 0, false, false, false, true⟩, ⟨0, 0, 0, 0, false, false, false, true⟩, ⟨0, 0, 3, 0, true, false, false, true⟩, ⟨1, 1, 0, 0, false, false, false, true⟩,
 ⟨2, 1099511627776, 0, 0, false, false, false, true⟩, ⟨2, 1099511627776, 0, 0, false, false, false, true⟩, ⟨2, 2, 0, 0, false, false, false, false⟩, ⟨1, 1, 0, 0, false, false, true, true⟩, ⟨2, 2, 0, 0, false, false, true, true⟩,
 ⟨2, 2, 0, 0, false, false, true, true⟩, ⟨1, 1, 0, 0, false, false, true, false⟩, ⟨1, 1, 0, 0, false, false, true, false⟩, ⟨1, 1, 0, 9, false, false, true, false⟩, ⟨1, 1, 0, 9, false, false, true, false⟩,
 ⟨1, 1, 1, 0, false, true, false, true⟩, ⟨2, 2, 1, 0, false, true, false, true⟩, ⟨2, 2, 1, 0, false, true, false, true⟩, ⟨1, 1, 0, 0, false, true, false, false⟩, ⟨1, 1, 0, 0, false, true, false, false⟩]
def CN (x : Form) : List Value := [.int .i64 x.least, .int .i64 x.most, .int .i64 x.val, .int .i64 x.bound, .bool x.named, .bool x.past, .bool x.future, .bool x.loose]
def formC : List Value := formsL.flatMap CN
def GF (w : World) : Prop := Cells w 2 0 formC
theorem GF.keep {X : List Nat} {w w' : World} (h : GF w) (k : Keep X w w') (hX : ∀ x ∈ X, 10 ≤ x) : GF w' := Cells.keep h k (fun hx => by have := hX _ hx; revert this; decide)
theorem GF.ext {w w' : World} (h : GF w) (k : Ext w w') : GF w' := h.keep k fun x hx => by cases hx
def zeroForm : Form := ⟨0, 0, 0, 0, false, false, false, false⟩
def isOpB (n : Int) : Bool := decide (1 ≤ n) && decide (n < 20)
def DR (n : Int) : Form := if isOpB n then formsL.getD n.toNat zeroForm else zeroForm
theorem formC_at : ∀ (l : List Form) (k i : Nat) (x : Form) (u : Value), l[k]? = some x → (CN x)[i]? = some u → (l.flatMap CN)[k * 8 + i]? = some u
 | [], _, _, _, _, h, _ => by simp at h
 | y :: l, 0, i, x, u, h, hu => by
  obtain rfl : y = x := by simpa using h
  rw [List.flatMap_cons, Nat.zero_mul, Nat.zero_add, List.getElem?_append_left (List.getElem?_eq_some_iff.1 hu).1, hu]
 | y :: l, k + 1, i, x, u, h, hu => by
  have := formC_at l k i x u (by simpa using h) hu
  rw [List.flatMap_cons, List.getElem?_append_right (by simp [CN]; omega), show (k + 1) * 8 + i - (CN y).length = k * 8 + i by simp [CN]; omega, this]
theorem formC_one (x : Form) : oneC (CN x) := by
 intro u hu
 simp [CN] at hu
 rcases hu with rfl | rfl | rfl | rfl | rfl | rfl | rfl | rfl <;> rfl
theorem formOf_ok (w : World) (n : Int) (hG : GF w) : Fn Tryz.prog 118 [.int .i64 n] w fun v w' => v = .tuple #[.agg (CN (DR n)).toArray, .bool (isOpB n)] ∧ Ext w w' := by
 refine Ae Tryz.func118 rfl Tryz.ntmps118 (Nat.le_of_ble_eq_true rfl) (by kernel_rfl) ?_
 repeat refine nx rfl ?_
 (refine AA ?_; refine Av (fun w1 n1 => ?_))
 have b1 : Blk w1 w.heap.size 175 (CN zeroForm) := n1.blk
 have k1 := n1.keep
 refine AC (AB rfl ?_)
 repeat refine nx rfl ?_
 by_cases hn : 1 ≤ n ∧ n < 20
 ·have hb : isOpB n = true := by simp [isOpB, hn]
  obtain ⟨k, rfl⟩ : ∃ k : Nat, n = (k : Int) := ⟨n.toNat, by omega⟩
  obtain ⟨x, hx⟩ : ∃ x, formsL[k]? = some x := ⟨_, List.getElem?_eq_getElem (by show k < 20; omega)⟩
  have hm : DR (k : Int) = x := by unfold DR; rw [if_pos hb]; simp [List.getD_eq_getElem?_getD, hx]
  have hcl : Cells w1 2 (0 + (k : Int).toNat * 8) (CN x) := by
   intro i u hu
   have := (hG.ext k1) (k * 8 + i) u (formC_at formsL k i x u hx hu)
   rw [Nat.add_assoc]; exact this
  rw [hb, hm]
  refine AA (AH rfl (BH rfl rfl (by omega) (AB rfl (AE rfl (AH rfl (AE rfl (W_geqF rfl rfl (by omega) (AN rfl (AB rfl ?_)))))))))
  repeat first | refine nx rfl ?_ | refine nf rfl ?_
  refine AA (AH rfl ?_)
  refine W_indexArr rfl rfl (by omega) (by omega) ?_
  refine Ad (L := CN x) rfl rfl hcl ?_
  refine AZ (cs := CN x) rfl rfl rfl (formC_one x) b1 (by simp [CN]) (fun w2 p2 => ?_)
  refine AC (AB rfl ?_)
  repeat refine nx rfl ?_
  exact CK (L := CN x) rfl rfl rfl p2.blk.cells ⟨rfl, k1.keep p2.keep (by simp)⟩
 ·have hb : isOpB n = false := by simp [isOpB]; omega
  have hm : DR n = zeroForm := by unfold DR; rw [if_neg (by simp [hb])]
  rw [hb, hm]
  (refine AA (AH rfl ?_) <;> (refine W_lss rfl rfl (fun hc => ?_) (fun hc => ?_) <;> try omega) <;> refine AB rfl ?_ <;> (first | refine AI rfl ?_ | (refine AE rfl ?_; refine AH rfl ?_)) <;> (first | refine AI rfl ?_ | (refine AE rfl ?_; refine W_geqT rfl rfl (by omega) ?_)) <;> ((first | refine AL rfl ?_ | refine AN rfl ?_); refine AB rfl ?_) <;> refine AJ ?_)
  all_goals
   repeat refine nx rfl ?_
   refine AA (Af (by rfl) (by rfl) ?_)
   refine AZ (cs := CN zeroForm) rfl rfl rfl (formC_one _) b1 (by simp [CN]) (fun w2 p2 => ?_)
   refine AC (AB rfl ?_)
   repeat refine nx rfl ?_
   exact CK (L := CN zeroForm) rfl rfl rfl p2.blk.cells ⟨rfl, k1.keep p2.keep (by simp)⟩
theorem rtrue_ok (w : World) : Fn Tryz.prog 68 [] w fun v w' => Ext w w' ∧ FV w' v ⟨1, [], 0, 0, []⟩ := by
 refine Ae Tryz.func68 rfl Tryz.ntmps68 (Nat.le_of_ble_eq_true rfl) (by kernel_rfl) ?_
 repeat refine nx rfl ?_
 refine AA ?_
 refine Av (fun w1 n1 => ?_)
 have b1 : Blk w1 w.heap.size 24 Cy := n1.blk
 repeat refine nx rfl ?_
 refine AA (Af (by rfl) (by rfl) ?_)
 refine AZ (cs := [.int .i64 1, AK [], .int .i64 0, .int .i64 0, .slice none 0 0]) rfl rfl rfl (A5 rfl) b1 (by simp [Cy]) (fun w2 p2 => ?_)
 have b2 : Blk w2 w.heap.size 24 [.int .i64 1, AK [], .int .i64 0, .int .i64 0, .slice none 0 0] := p2.blk
 repeat refine nx rfl ?_
 exact A6 rfl rfl rfl b2.cells ⟨n1.keep.keep p2.keep (by simp), FAt.leaf _ _ _ _ _ _⟩
def findM (l : List Sgn) (s : List UInt8) : Int := match l.findIdx? (fun x => decide (x.name = s)) with
 | some i => (i : Int)
 | none => -1
theorem sigFind_ok (w : World) (v : Value) (l : List Sgn) (s : List UInt8) (h : SlAt sgnR A1 w v l) : Fn Tryz.prog 40 [v, AK s] w fun v w' => v = .int .i64 (findM l s) ∧ w' = w := by
 obtain ⟨a, c, L, rfl, hS, hF⟩ := h
 have hlm : l.length ≤ 9223372036854775807 := by obtain ⟨_, _, hv, g1, g2, _⟩ := id hS; cases hv; omega
 refine Ae Tryz.func40 rfl Tryz.ntmps40 (Nat.le_of_ble_eq_true rfl) (by kernel_rfl) ?_
 repeat refine nx rfl ?_
 refine AA (AC (AH rfl ?_))
 repeat refine nx rfl ?_
 refine AA (Aa rfl (Ap rfl (AH rfl ?_)))
 repeat refine nx rfl ?_
 refine BN (α := Nat) (fun k => [(0, .slice a l.length c), (1, AK s), (7, .int .i64 (l.length : Int)), (8, .int .i64 (k : Int))]) (fun k W => k ≤ l.length ∧ W = w ∧ ∀ j y, j < k → l[j]? = some y → y.name ≠ s) (fun k => l.length - k) 0 ⟨rfl, rfl, rfl, rfl, trivial⟩ ⟨by omega, rfl, fun j y hj => by omega⟩ ?_
 rintro k w3 f3 ⟨hk, rfl, hj⟩
 repeat refine nx rfl ?_
 by_cases hlt : k < l.length
 ·obtain ⟨y, hy⟩ : ∃ y, l[k]? = some y := ⟨_, List.getElem?_eq_getElem hlt⟩
  obtain ⟨cy, hcy⟩ : ∃ cy, L[k]? = some cy := ⟨_, List.getElem?_eq_getElem (by rw [hF.1]; exact hlt)⟩
  obtain rfl : cy = Cm y := hF.2 k cy y hcy hy
  obtain ⟨b, o, rfl, _, hcell⟩ := hS.recs hF (sz := 3) rfl hcy hlt
  have c0 : w3.cell? ⟨b, o + k * 3 + 0, none⟩ = some (AK y.name) := hcell 0 _ rfl
  refine AA (BG rfl rfl (by omega) ?_)
  repeat refine nx rfl ?_
  refine AA (AH rfl (AC (AH rfl ?_)))
  repeat refine nx rfl ?_
  refine AA (Aa rfl (AH rfl ?_))
  refine B7 (k := k) rfl rfl rfl hlt ?_
  by_cases hyx : y.name = s
  ·(refine AD rfl (AF rfl (by assumption) ?_) <;> refine AU rfl ?_ <;> refine CB rfl rfl (fun hc => ?_) (fun hc => ?_) <;> refine AJ ?_)
   case refine_2 => exact absurd hyx (by assumption)
   repeat refine nx rfl ?_
   refine AA (AH rfl (AC (AH rfl ?_)))
   repeat refine nx rfl ?_
   refine AP rfl ⟨?_, rfl⟩
   have : l.findIdx? (fun x => decide (x.name = s)) = some k := by
    rw [List.findIdx?_eq_some_iff_getElem]
    obtain ⟨h1, h2⟩ := List.getElem?_eq_some_iff.1 hy
    refine ⟨hlt, by simp [h2, hyx], fun j hjk => ?_⟩
    have := hj j l[j] hjk (List.getElem?_eq_getElem (by omega))
    simpa using this
   unfold findM
   rw [this]; rfl
  ·(refine AD rfl (AF rfl (by assumption) ?_) <;> refine AU rfl ?_ <;> refine CB rfl rfl (fun hc => ?_) (fun hc => ?_) <;> refine AJ ?_)
   case refine_1 => exact absurd (by assumption) hyx
   repeat first | refine nx rfl ?_ | refine nf rfl ?_
   (refine AA (BU rfl rfl (by first | exact Ao (by omega) (by omega) | exact Au (by omega) (by omega) | exact An (by omega) (by omega)) ?_) <;> refine AH rfl ?_)
   repeat refine nx rfl ?_
   refine ⟨k + 1, ⟨rfl, ⟨rfl, rfl, rfl, ?_, trivial⟩, ⟨by omega, rfl, fun j z hjk hz => ?_⟩⟩, by omega⟩
   ·show Value.int .i64 ((k : Int) + 1) = _
    rw [Int.natCast_add]; rfl
   ·rcases Nat.lt_or_ge j k with h | h
    ·exact hj j z h hz
    ·obtain rfl : j = k := by omega
     rw [hy] at hz; cases hz; exact hyx
 ·obtain rfl : k = l.length := by omega
  refine AA (BH rfl rfl (by omega) ?_)
  repeat first | refine nx rfl ?_ | refine nf rfl ?_
  refine AA (AC (AH rfl ?_))
  repeat refine nx rfl ?_
  refine AP rfl ⟨?_, rfl⟩
  have : l.findIdx? (fun x => decide (x.name = s)) = none := by
   rw [List.findIdx?_eq_none_iff]
   intro x hx
   obtain ⟨i, hi⟩ := List.getElem?_of_mem hx
   simpa using hj i x (List.getElem?_eq_some_iff.1 hi).1 hi
  unfold findM
  rw [this]; rfl
end Go.Proofs.YtfcgdbmoncnibaaGreatDoor
namespace Go.Proofs.YtfcgdbmoncnibaaGreatDoor
set_option linter.unusedVariables false
mutual
def szF : Fml → Nat
 | .mk _ _ _ _ args => szL args + 1
def szL : List Fml → Nat
 | [] => 0
 | a :: l => szF a + szL l
end
theorem szF_eq (f : Fml) : szF f = szL f.args + 1 := by cases f; simp [szF, Fml.args]
theorem szF_pos (f : Fml) : 1 ≤ szF f := by rw [szF_eq]; omega
theorem szL_len : ∀ l : List Fml, l.length ≤ szL l
 | [] => by simp
 | a :: l => by have := szF_pos a; have := szL_len l; simp only [szL, List.length_cons]; omega
theorem szL_mem : ∀ {l : List Fml} {a : Fml}, a ∈ l → szF a ≤ szL l
 | c :: l, a, h => by
  simp only [szL]
  rcases List.mem_cons.1 h with rfl | h
  ·omega
  ·have := szL_mem h; omega
end Go.Proofs.YtfcgdbmoncnibaaGreatDoor
namespace Go.Proofs.YtfcgdbmoncnibaaGreatDoor
open Go.RowKit
set_option linter.unusedVariables false
variable {mk : Prop} [MK mk]
abbrev Nd := Fml × Bool
mutual
def preF (i : Bool) : Fml → List Nd
 | .mk op nm v b args => (.mk op nm v b args, i) :: Dc (i || (DR op).past) args
def Dc (i : Bool) : List Fml → List Nd
 | [] => []
 | f :: l => preF i f ++ Dc i l
end
mutual
def dpF : Fml → Nat
 | .mk _ _ _ _ args => dpL args + 1
def dpL : List Fml → Nat
 | [] => 0
 | f :: l => max (dpF f) (dpL l)
end
theorem preF_eq (i : Bool) (f : Fml) : preF i f = (f, i) :: Dc (i || (DR f.op).past) f.args := by cases f; simp [preF, Fml.args, Fml.op]
theorem dpF_eq (f : Fml) : dpF f = dpL f.args + 1 := by cases f; simp [dpF, Fml.args]
theorem dpL_mem : ∀ {l : List Fml} {a : Fml}, a ∈ l → dpF a ≤ dpL l
 | c :: l, a, h => by
  simp only [dpL]
  rcases List.mem_cons.1 h with rfl | h
  ·omega
  ·have := dpL_mem h; omega
theorem preL_app (i : Bool) : ∀ l m : List Fml, Dc i (l ++ m) = Dc i l ++ Dc i m
 | [], m => rfl
 | f :: l, m => by simp [Dc, preL_app i l m]
theorem preL_take (i : Bool) {l : List Fml} {k : Nat} {x : Fml} (h : l[k]? = some x) : Dc i (l.take (k + 1)) = Dc i (l.take k) ++ preF i x := by
 rw [List.take_add_one, h, Option.toList_some, preL_app]; simp [Dc]
structure NodesR (yv : Value) (X : List Nat) (B : Nat) (P : List Nd) (J D : List Nd → World → Prop) : Prop where
 fn : ∃ y, yv = .func (.yield y) #[] #[]
 glob : ∀ x ∈ X, 10 ≤ x
 keep : ∀ {L : List Nd} {W W' : World} {Y : List Nat}, J L W → Keep Y W W' → (∀ y ∈ Y, B ≤ y) → J L W'
 step : ∀ {L : List Nd} {W : World} {b o : Nat} {f : Fml} {i : Bool}, J L W → PF (fun b => b ∉ X ∧ b < B) W b o f → L ++ [(f, i)] <+: P → YldP Tryz.prog yv [.pointer (some ⟨b, o, none⟩), .bool i] W (fun v W' => Keep X W W' ∧ ((v = .bool true ∧ J (L ++ [(f, i)]) W') ∨ (v = .bool false ∧ D (L ++ [(f, i)]) W'))) fun _ _ => False
theorem PF.opc {ok : Nat → Prop} {w : World} {b o : Nat} {f : Fml} (h : PF ok w b o f) : w.cell? ⟨b, o + 0, none⟩ = some (.int .i64 f.op) := by
 obtain ⟨_, a, c, L, hc, _⟩ := h.form
 exact hc 0 _ rfl
theorem PF.arg {ok : Nat → Prop} {w : World} {b o : Nat} {f : Fml} (h : PF ok w b o f) : ∃ a c, f.args.length ≤ 9223372036854775807 ∧ w.cell? ⟨b, o + 4, none⟩ = some (.slice a f.args.length c) ∧ ∀ (k : Nat) (x : Fml), f.args[k]? = some x → ∃ b' o', a = some ⟨b', o', none⟩ ∧ PF ok w b' (o' + k * 5) x := by
 obtain ⟨_, a, c, L, hc, hS, h1, h2, h3⟩ := h.form
 refine ⟨a, c, by obtain ⟨_, _, hv, g1, g2, _⟩ := id hS; cases hv; omega, hc 4 _ rfl, fun k x hx => ?_⟩
 have hlt : k < f.args.length := (List.getElem?_eq_some_iff.1 hx).1
 obtain ⟨d, hd⟩ : ∃ d, L[k]? = some d := ⟨_, List.getElem?_eq_getElem (by omega)⟩
 obtain ⟨b', o', rfl, hb, hcx⟩ := hS.fml h2 hd hlt
 exact ⟨b', o', rfl, hb, d, h2 d (List.mem_of_getElem? hd), hcx, h3 k d x hd hx⟩
theorem NodesR.ext {yv : Value} {X : List Nat} {B : Nat} {P : List Nd} {J D : List Nd → World → Prop} (H : NodesR yv X B P J D) {L : List Nd} {W W' : World} (h : J L W) (k : Ext W W') : J L W' := H.keep h k fun _ h => by cases h
theorem visit_ok {yv : Value} {X : List Nat} {B : Nat} {P : List Nd} {J D : List Nd → World → Prop} (H : NodesR yv X B P J D) (c3 c4 c5 : Nat) (h4 : c4 ∉ X) (h5 : c5 ∉ X) : ∀ (n : Nat) (w : World) (b o : Nat) (f : Fml) (i : Bool) (d : Nat) (L : List Nd), dpF f ≤ n → d + n ≤ 5000 → PF (fun b => b ∉ X ∧ b < B) w b o f → GF w →
  Blk w c4 169 [yv] → Blk w c5 173 [.func (.func 117) #[] #[pt c3, pt c4, pt c5]] → J L w → L ++ preF i f <+: P →
  Fn Tryz.prog 117 [.pointer (some ⟨b, o, none⟩), .bool i, .int .i64 d, pt c3, pt c4, pt c5] w fun v w' => Keep X w w' ∧ ((v = .bool true ∧ J (L ++ preF i f) w') ∨ (v = .bool false ∧ ∃ M, M <+: preF i f ∧ M ≠ [] ∧ D (L ++ M) w')) := by
 intro n
 induction n with
 | zero => intro w b o f i d L hn; rw [dpF_eq] at hn; omega
 | succ n ih =>
 intro w b o f i d L hn hd hf hG b4 b5 hJ hP
 rw [dpF_eq] at hn
 have hdl : d < 5000 := by omega
 obtain ⟨y, rfl⟩ := H.fn
 refine Ae Tryz.func117 rfl Tryz.ntmps117 (Nat.le_of_ble_eq_true rfl) (by kernel_rfl) ?_
 repeat refine nx rfl ?_
 refine AA (AC (AB rfl ?_))
 repeat refine nx rfl ?_
 refine AA (AH rfl (AQ rfl rfl (by omega) ?_))
 repeat first | refine nx rfl ?_ | refine nf rfl ?_
 (refine AA (AF rfl (Blk.cell (by assumption) (by rfl)) ?_) <;> refine AO rfl (AB rfl ?_))
 refine W_yield rfl rfl (H.step hJ hf (((List.prefix_append_right_inj L).2 (by rw [preF_eq]; exact ⟨_, rfl⟩)).trans hP)) ?_
 rintro _ w1 ⟨k1, hr⟩
 rcases hr with ⟨rfl, hJ1⟩ | ⟨rfl, hD⟩
 case inr =>
  refine BB rfl ?_
  repeat refine nx rfl ?_
  refine AA (AC (AB rfl ?_))
  repeat refine nx rfl ?_
  exact AP rfl ⟨k1, .inr ⟨rfl, [(f, i)], by rw [preF_eq]; exact ⟨_, rfl⟩, by simp, hD⟩⟩
 have hf1 := hf.keep k1 (fun _ h => h.1)
 have hG1 := hG.keep k1 H.glob
 have b41 := b4.keep k1 h4
 have b51 := b5.keep k1 h5
 refine BB rfl ?_
 repeat first | refine nx rfl ?_ | refine nf rfl ?_
 have hop := hf1.opc
 refine AA (AO rfl (AG rfl (AD rfl (AF rfl (by assumption) ?_))))
 refine AS (formOf_ok w1 f.op hG1) rfl ?_
 rintro _ w2 ⟨rfl, k2⟩
 refine Bf rfl (Ab rfl rfl (Ab rfl rfl ?_))
 refine A7 (cs := CN (DR f.op)) rfl rfl (by rfl) (formC_one _) (fun w3 n3 => ?_)
 refine AC (AB rfl ?_)
 repeat refine nx rfl ?_
 have k3 := k2.trans n3.keep
 have b3 := n3.blk
 have hf3 := hf1.keep k3 (fun _ _ => by simp)
 have hG3 := hG1.ext k3
 have b43 := b41.keep k3 (by simp)
 have b53 := b51.keep k3 (by simp)
 have k13 : Keep X w w3 := k1.ext k3
 have hJ3 := H.ext hJ1 k3
 have hpast : w3.cell? ⟨w2.heap.size, 0 + 5, none⟩ = some (.bool (DR f.op).past) := b3.cell rfl
 obtain ⟨a3, cc3, hal, hargs3, _⟩ := hf3.arg
 cases i with
 | true =>
  refine AA (AB rfl (AB rfl (AI rfl (AI rfl (AL rfl (AB rfl (AC (AB rfl ?_))))))))
  repeat refine nx rfl ?_
  (refine AA (AO rfl (AG rfl (AD rfl (AF rfl (by assumption) ?_)))) <;> refine Ap rfl (AH rfl ?_))
  repeat refine nx rfl ?_
  refine BN (α := Nat) (fun k => [(0, .pointer (some ⟨b, o, none⟩)), (1, .bool true), (2, .int .i64 (d : Int)), (5, pt c5), (43, .int .i64 (f.args.length : Int)), (44, .int .i64 (k : Int))]) (fun k W => k ≤ f.args.length ∧ Keep X w W ∧ Ext w3 w3 ∧ J (L ++ ((f, true) :: Dc true (f.args.take k))) W ∧ GF W ∧ PF (fun b => b ∉ X ∧ b < B) W b o f ∧ Blk W c4 169 [.func (.yield y) #[] #[]] ∧ Blk W c5 173 [.func (.func 117) #[] #[pt c3, pt c4, pt c5]]) (fun k => f.args.length - k) 0 ⟨rfl, rfl, rfl, rfl, rfl, rfl, trivial⟩ ⟨by omega, k13, Ext.refl _, by simpa [Dc] using hJ3, hG3, hf3, b43, b53⟩ ?_
  rintro k W fr ⟨hk, kW, _, hJW, hGW, hfW, b4W, b5W⟩
  repeat refine nx rfl ?_
  by_cases hlt : k < f.args.length
  ·refine AA (BG rfl rfl (by omega) ?_)
   repeat refine nx rfl ?_
   refine AA (AH rfl (AC (AH rfl ?_)))
   repeat refine nx rfl ?_
   obtain ⟨x, hx⟩ : ∃ x, f.args[k]? = some x := ⟨_, List.getElem?_eq_getElem hlt⟩
   obtain ⟨aa, cc, _, hargs, hel⟩ := hfW.arg
   obtain ⟨b', o', rfl, hfx⟩ := hel k x hx
   have hfa : f.args = f.args.take k ++ x :: f.args.drop (k + 1) := by
    have := List.take_append_drop k f.args
    rw [List.drop_eq_getElem_cons hlt, (List.getElem?_eq_some_iff.1 hx).2] at this
    exact this.symm
   have hpe : Dc true f.args = Dc true (f.args.take k) ++ (preF true x ++ Dc true (f.args.drop (k + 1))) := by
    conv => lhs; rw [hfa, preL_app]
    simp [Dc]
   have hPx : (L ++ ((f, true) :: Dc true (f.args.take k))) ++ preF true x <+: P := by
    refine List.IsPrefix.trans ?_ hP
    rw [preF_eq true f, List.append_assoc, List.prefix_append_right_inj]
    show _ <+: (f, true) :: Dc true f.args
    rw [hpe, List.cons_append, List.prefix_cons_inj, List.prefix_append_right_inj]
    exact List.prefix_append _ _
   have hdx : dpF x ≤ n := by have := dpL_mem (List.mem_of_getElem? hx); omega
   refine A3 (.read 0 (.read 1 (.read 2 (.read 3 (.read 4 (.read 5 (.read 6 (.read 7 (.read 8 (.read 9 (.alt 10 (.read 11 .done) .stop))))))))))) BA (by kernel_rfl) (fun wd kd ed => ⟨Keep X wd, ?_, ?_⟩)
   ·exact Keep.refl _ _
   have ca : ∀ V, Keep X wd V → V.cell? ⟨c5, 0, none⟩ = some (.func (.func 117) #[] #[pt c3, pt c4, pt c5]) := fun V e => ((b5W.keep kd (by simp)).keep e h5).cell rfl
   have cb : ∀ V, Keep X wd V → V.cell? ⟨b, o + 4, none⟩ = some (.slice (some ⟨b', o', none⟩) f.args.length cc) := fun V e => e.cell (kd.cell hargs (by simp)) hfW.1.1
   (refine D_R rfl rfl (fun W hW => AF rfl (ca W hW) Z3) (D_R rfl rfl (fun W hW => AO rfl Z3) (D_R rfl rfl (fun W hW => AG rfl Z3) (D_R rfl rfl (fun W hW => AD rfl Z3) (D_R rfl rfl (fun W hW => AF rfl (cb W hW) Z3) (D_R rfl rfl (fun W hW => AH rfl Z3) (D_R rfl rfl (fun W hW => B7 rfl rfl rfl (by omega) Z3) (D_R rfl rfl (fun W hW => AB rfl Z3) (D_R rfl rfl (fun W hW => AH rfl Z3) ?_)))))))) <;> (apply D_R rfl rfl; (intro W hW; refine BU rfl rfl (by first | exact Ao (by omega) (by omega) | exact Au (by omega) (by omega) | exact An (by omega) (by omega)) ?_; exact Z3)))
   refine D_E rfl ?_
   refine CA (v1 := []) (v2 := [pt c3, pt c4, pt c5]) (vs := [.pointer (some ⟨b', o' + k * 5, none⟩), .bool true, .int .i64 ((d : Int) + 1)]) rfl (ih wd b' (o' + k * 5) x true (d + 1) _ hdx (by omega) (hfx.keep kd (fun _ _ => by simp)) (hGW.ext kd) (b4W.keep kd (by simp)) (b5W.keep kd (by simp)) (H.ext hJW kd) hPx) rfl ?_
   rintro _ w4 ⟨k4, hr⟩
   refine AJ ⟨Keep X wd, fun _ e => e, k4, ?_⟩
   have kW4 : Keep X w w4 := (kW.ext kd).trans k4 (fun _ hx _ => hx)
   rcases hr with ⟨rfl, hJ4⟩ | ⟨rfl, M, hM1, hM2, hD⟩
   ·refine D_R rfl rfl (fun W hW => BB rfl Z3) (Ay ?_)
    repeat first | refine nx rfl ?_ | refine nf rfl ?_
    (refine AA (BU rfl rfl (by first | exact Ao (by omega) (by omega) | exact Au (by omega) (by omega) | exact An (by omega) (by omega)) ?_) <;> refine AH rfl ?_)
    repeat refine nx rfl ?_
    refine ⟨k + 1, ⟨rfl, ⟨rfl, rfl, rfl, rfl, rfl, ?_, trivial⟩, ⟨by omega, kW4, Ext.refl _, ?_, (hGW.ext kd).keep k4 H.glob, (hfW.keep kd (fun _ _ => by simp)).keep k4 (fun _ h => h.1), (b4W.keep kd (by simp)).keep k4 h4, (b5W.keep kd (by simp)).keep k4 h5⟩⟩, by omega⟩
    ·show Value.int .i64 ((k : Int) + 1) = _
     rw [Int.natCast_add]; rfl
    ·rw [preL_take _ hx]; simpa using hJ4
   ·refine D_R rfl rfl (fun W hW => BB rfl Z3) (Ay ?_)
    repeat refine nx rfl ?_
    refine AA (AC (AB rfl ?_))
    repeat refine nx rfl ?_
    refine AP rfl ⟨kW4, .inr ⟨rfl, (f, true) :: Dc true (f.args.take k) ++ M, ?_, by simp, by simpa using hD⟩⟩
    rw [preF_eq]
    show _ <+: (f, true) :: Dc true f.args
    rw [hpe, List.cons_append, List.prefix_cons_inj, List.prefix_append_right_inj]
    exact hM1.trans (List.prefix_append _ _)
  ·refine AA (BH rfl rfl (by omega) ?_)
   repeat first | refine nx rfl ?_ | refine nf rfl ?_
   refine AA (AC (AB rfl ?_))
   repeat refine nx rfl ?_
   rw [List.take_of_length_le (by omega)] at hJW
   refine AP rfl ⟨kW, .inl ⟨rfl, by rw [preF_eq]; exact hJW⟩⟩
 | false =>
  (refine AA (AB rfl (AB rfl (AE rfl (AD rfl (AE rfl (AF rfl (Blk.cell (by assumption) (by rfl)) ?_)))))) <;> refine AN rfl (AB rfl (AC (AB rfl ?_))))
  repeat refine nx rfl ?_
  (refine AA (AO rfl (AG rfl (AD rfl (AF rfl (by assumption) ?_)))) <;> refine Ap rfl (AH rfl ?_))
  repeat refine nx rfl ?_
  refine BN (α := Nat) (fun k => [(0, .pointer (some ⟨b, o, none⟩)), (1, .bool (DR f.op).past), (2, .int .i64 (d : Int)), (5, pt c5), (43, .int .i64 (f.args.length : Int)), (44, .int .i64 (k : Int))]) (fun k W => k ≤ f.args.length ∧ Keep X w W ∧ Ext w3 w3 ∧ J (L ++ ((f, false) :: Dc (DR f.op).past (f.args.take k))) W ∧ GF W ∧ PF (fun b => b ∉ X ∧ b < B) W b o f ∧ Blk W c4 169 [.func (.yield y) #[] #[]] ∧ Blk W c5 173 [.func (.func 117) #[] #[pt c3, pt c4, pt c5]]) (fun k => f.args.length - k) 0 ⟨rfl, rfl, rfl, rfl, rfl, rfl, trivial⟩ ⟨by omega, k13, Ext.refl _, by simpa [Dc] using hJ3, hG3, hf3, b43, b53⟩ ?_
  rintro k W fr ⟨hk, kW, _, hJW, hGW, hfW, b4W, b5W⟩
  repeat refine nx rfl ?_
  by_cases hlt : k < f.args.length
  ·refine AA (BG rfl rfl (by omega) ?_)
   repeat refine nx rfl ?_
   refine AA (AH rfl (AC (AH rfl ?_)))
   repeat refine nx rfl ?_
   obtain ⟨x, hx⟩ : ∃ x, f.args[k]? = some x := ⟨_, List.getElem?_eq_getElem hlt⟩
   obtain ⟨aa, cc, _, hargs, hel⟩ := hfW.arg
   obtain ⟨b', o', rfl, hfx⟩ := hel k x hx
   have hfa : f.args = f.args.take k ++ x :: f.args.drop (k + 1) := by
    have := List.take_append_drop k f.args
    rw [List.drop_eq_getElem_cons hlt, (List.getElem?_eq_some_iff.1 hx).2] at this
    exact this.symm
   have hpe : Dc (DR f.op).past f.args = Dc (DR f.op).past (f.args.take k) ++ (preF (DR f.op).past x ++ Dc (DR f.op).past (f.args.drop (k + 1))) := by
    conv => lhs; rw [hfa, preL_app]
    simp [Dc]
   have hPx : (L ++ ((f, false) :: Dc (DR f.op).past (f.args.take k))) ++ preF (DR f.op).past x <+: P := by
    refine List.IsPrefix.trans ?_ hP
    rw [preF_eq false f, List.append_assoc, List.prefix_append_right_inj]
    show _ <+: (f, false) :: Dc (DR f.op).past f.args
    rw [hpe, List.cons_append, List.prefix_cons_inj, List.prefix_append_right_inj]
    exact List.prefix_append _ _
   have hdx : dpF x ≤ n := by have := dpL_mem (List.mem_of_getElem? hx); omega
   refine A3 (.read 0 (.read 1 (.read 2 (.read 3 (.read 4 (.read 5 (.read 6 (.read 7 (.read 8 (.read 9 (.alt 10 (.read 11 .done) .stop))))))))))) BA (by kernel_rfl) (fun wd kd ed => ⟨Keep X wd, ?_, ?_⟩)
   ·exact Keep.refl _ _
   have ca : ∀ V, Keep X wd V → V.cell? ⟨c5, 0, none⟩ = some (.func (.func 117) #[] #[pt c3, pt c4, pt c5]) := fun V e => ((b5W.keep kd (by simp)).keep e h5).cell rfl
   have cb : ∀ V, Keep X wd V → V.cell? ⟨b, o + 4, none⟩ = some (.slice (some ⟨b', o', none⟩) f.args.length cc) := fun V e => e.cell (kd.cell hargs (by simp)) hfW.1.1
   (refine D_R rfl rfl (fun W hW => AF rfl (ca W hW) Z3) (D_R rfl rfl (fun W hW => AO rfl Z3) (D_R rfl rfl (fun W hW => AG rfl Z3) (D_R rfl rfl (fun W hW => AD rfl Z3) (D_R rfl rfl (fun W hW => AF rfl (cb W hW) Z3) (D_R rfl rfl (fun W hW => AH rfl Z3) (D_R rfl rfl (fun W hW => B7 rfl rfl rfl (by omega) Z3) (D_R rfl rfl (fun W hW => AB rfl Z3) (D_R rfl rfl (fun W hW => AH rfl Z3) ?_)))))))) <;> (apply D_R rfl rfl; (intro W hW; refine BU rfl rfl (by first | exact Ao (by omega) (by omega) | exact Au (by omega) (by omega) | exact An (by omega) (by omega)) ?_; exact Z3)))
   refine D_E rfl ?_
   refine CA (v1 := []) (v2 := [pt c3, pt c4, pt c5]) (vs := [.pointer (some ⟨b', o' + k * 5, none⟩), .bool (DR f.op).past, .int .i64 ((d : Int) + 1)]) rfl (ih wd b' (o' + k * 5) x (DR f.op).past (d + 1) _ hdx (by omega) (hfx.keep kd (fun _ _ => by simp)) (hGW.ext kd) (b4W.keep kd (by simp)) (b5W.keep kd (by simp)) (H.ext hJW kd) hPx) rfl ?_
   rintro _ w4 ⟨k4, hr⟩
   refine AJ ⟨Keep X wd, fun _ e => e, k4, ?_⟩
   have kW4 : Keep X w w4 := (kW.ext kd).trans k4 (fun _ hx _ => hx)
   rcases hr with ⟨rfl, hJ4⟩ | ⟨rfl, M, hM1, hM2, hD⟩
   ·refine D_R rfl rfl (fun W hW => BB rfl Z3) (Ay ?_)
    repeat first | refine nx rfl ?_ | refine nf rfl ?_
    (refine AA (BU rfl rfl (by first | exact Ao (by omega) (by omega) | exact Au (by omega) (by omega) | exact An (by omega) (by omega)) ?_) <;> refine AH rfl ?_)
    repeat refine nx rfl ?_
    refine ⟨k + 1, ⟨rfl, ⟨rfl, rfl, rfl, rfl, rfl, ?_, trivial⟩, ⟨by omega, kW4, Ext.refl _, ?_, (hGW.ext kd).keep k4 H.glob, (hfW.keep kd (fun _ _ => by simp)).keep k4 (fun _ h => h.1), (b4W.keep kd (by simp)).keep k4 h4, (b5W.keep kd (by simp)).keep k4 h5⟩⟩, by omega⟩
    ·show Value.int .i64 ((k : Int) + 1) = _
     rw [Int.natCast_add]; rfl
    ·rw [preL_take _ hx]; simpa using hJ4
   ·refine D_R rfl rfl (fun W hW => BB rfl Z3) (Ay ?_)
    repeat refine nx rfl ?_
    refine AA (AC (AB rfl ?_))
    repeat refine nx rfl ?_
    refine AP rfl ⟨kW4, .inr ⟨rfl, (f, false) :: Dc (DR f.op).past (f.args.take k) ++ M, ?_, by simp, by simpa using hD⟩⟩
    rw [preF_eq]
    show _ <+: (f, false) :: Dc (DR f.op).past f.args
    rw [hpe, List.cons_append, List.prefix_cons_inj, List.prefix_append_right_inj]
    exact hM1.trans (List.prefix_append _ _)
  ·refine AA (BH rfl rfl (by omega) ?_)
   repeat first | refine nx rfl ?_ | refine nf rfl ?_
   refine AA (AC (AB rfl ?_))
   repeat refine nx rfl ?_
   rw [List.take_of_length_le (by omega)] at hJW
   refine AP rfl ⟨kW, .inl ⟨rfl, by rw [preF_eq]; exact hJW⟩⟩
end Go.Proofs.YtfcgdbmoncnibaaGreatDoor
namespace Go.Proofs.YtfcgdbmoncnibaaGreatDoor
open Go.RowKit
set_option linter.unusedVariables false
variable {mk : Prop} [MK mk]
theorem madePut : (madeCells (Value.agg #[.pointer none, .bool false]).cells (1 * 2)).toList = [.pointer none, .bool false] := by kernel_rfl
theorem nodesIt_ok {yv : Value} {X : List Nat} {J D : List Nd → World → Prop} (w : World) (cf b o : Nat) (f : Fml) (H : NodesR yv X w.heap.size (preF false f) J D) (hcf : Blk w cf 76 [.pointer (some ⟨b, o, none⟩)]) (hf : PF (fun b => b ∉ X ∧ b < w.heap.size) w b o f) (hG : GF w) (hN : 10 ≤ w.heap.size) (hd : dpF f ≤ 5000) (hJ : J [] w) (hX : ∀ x ∈ X, x < w.heap.size) :
  Fn Tryz.prog 116 [yv, pt cf] w fun _ w' => Keep X w w' ∧ (J (preF false f) w' ∨ ∃ M, M <+: preF false f ∧ M ≠ [] ∧ D M w') := by
 have hX' : ∀ {c : Nat}, w.heap.size ≤ c → c ∉ X := fun h hx => by have := hX _ hx; omega
 have hy := H.fn
 obtain ⟨y, rfl⟩ := hy
 refine Ae Tryz.func116 rfl Tryz.ntmps116 (Nat.le_of_ble_eq_true rfl) (by kernel_rfl) ?_
 repeat refine nx rfl ?_
 (refine AA ?_; refine Bh (L := [.func (.yield y) #[] #[]]) rfl (fun w1 n1 => ?_))
 repeat refine nx rfl ?_
 have c1 : w1.cell? ⟨cf, 0, none⟩ = some (.pointer (some ⟨b, o, none⟩)) := (hcf.keep n1.keep (by simp)).cell rfl
 (refine AA (AF rfl (by assumption) ?_) <;> refine Af (by rfl) (by rfl) ?_)
 refine AW (out := [.pointer (some ⟨b, o, none⟩), .bool false]) rfl (by omega) (by rw [madePut]; rfl) (fun w2 n2 => ?_)
 refine Av (fun w3 n3 => ?_)
 refine Ah (v := .slice (some ⟨w1.heap.size, 0, none⟩) 1 1) rfl rfl rfl n3.blk (by simp) (fun w4 p4 => ?_)
 repeat refine nx rfl ?_
 (refine AA ?_; refine Av (fun w5 n5 => ?_))
 repeat refine nx rfl ?_
 refine AA (BI rfl rfl ?_)
 refine Ah (v := .func (.func 117) #[] #[pt w2.heap.size, pt w.heap.size, pt w4.heap.size]) rfl rfl rfl n5.blk (by simp) (fun w6 p6 => ?_)
 repeat refine nx rfl ?_
 have z1 := n1.size
 have z2 := n2.size
 have z3 := n3.size
 have z4 := p4.size
 have z5 := n5.size
 have z6 := p6.size
 have k24 : Ext w2 w4 := n3.keep.keep p4.keep (by simp)
 have k46 : Ext w4 w6 := n5.keep.keep p6.keep (by simp)
 have k26 := k24.trans k46
 have k16 := n2.keep.trans k26
 have k6 : Ext w w6 := n1.keep.trans k16
 have b4 : Blk w6 w.heap.size 169 [.func (.yield y) #[] #[]] := n1.blk.keep k16 (by simp)
 have bp : Blk w6 w1.heap.size 171 [.pointer (some ⟨b, o, none⟩), .bool false] := n2.blk.keep k26 (by simp)
 have b3 : Blk w6 w2.heap.size 172 [.slice (some ⟨w1.heap.size, 0, none⟩) 1 1] := p4.blk.keep k46 (by simp)
 have b5 : Blk w6 w4.heap.size 173 [.func (.func 117) #[] #[pt w2.heap.size, pt w.heap.size, pt w4.heap.size]] := p6.blk
 have x4 : w.heap.size ∉ X := hX' (Nat.le_refl _)
 have xp : w1.heap.size ∉ X := hX' (by omega)
 have x3 : w2.heap.size ∉ X := hX' (by omega)
 have x5 : w4.heap.size ∉ X := hX' (by omega)
 replace hG := hG.ext k6
 replace hf := hf.keep k6 (fun _ _ => by simp)
 replace hJ := H.ext hJ k6
 clear c1 n1 n2 n3 p4 n5 p6
 refine BN (α := Nat) (fun k => [(3, pt w2.heap.size), (4, pt w4.heap.size)]) (fun k W => k ≤ 1 ∧ Keep X w W ∧ (k = 1 → J [] W) ∧ (k = 0 → J (preF false f) W) ∧ GF W ∧ PF (fun b => b ∉ X ∧ b < w.heap.size) W b o f ∧ Blk W w2.heap.size 172 [.slice (some ⟨w1.heap.size, 0, none⟩) k 1] ∧
  Blk W w1.heap.size 171 [.pointer (some ⟨b, o, none⟩), .bool false] ∧ Blk W w.heap.size 169 [.func (.yield y) #[] #[]] ∧ Blk W w4.heap.size 173 [.func (.func 117) #[] #[pt w2.heap.size, pt w.heap.size, pt w4.heap.size]]) (fun k => k) 1 ⟨rfl, rfl, trivial⟩
  ⟨by omega, k6.any, fun _ => hJ, fun h => by omega, hG, hf, b3, bp, b4, b5⟩ ?_
 clear b3 bp b4 b5 hG hf hJ
 rintro k W fr ⟨hk, kW, hJ1, hJ0, hGW, hfW, b3, bp, b4, b5⟩
 repeat refine nx rfl ?_
 by_cases hk0 : k = 0
 ·subst hk0
  (refine AA (AF rfl (Blk.cell (by assumption) (by rfl)) ?_) <;> refine Ap rfl (DH rfl rfl (by omega) ?_))
  repeat first | refine nx rfl ?_ | refine nf rfl ?_
  exact Az rfl ⟨kW, .inl (hJ0 rfl)⟩
 obtain rfl : k = 1 := by omega
 (refine AA (AF rfl (Blk.cell (by assumption) (by rfl)) ?_) <;> refine Ap rfl (DF rfl rfl (by omega) ?_))
 repeat refine nx rfl ?_
 (refine AA (AF rfl (Blk.cell (by assumption) (by rfl)) ?_) <;> refine AF rfl (Blk.cell (by assumption) (by rfl)) ?_ <;> refine Ap rfl (W_sub rfl rfl (by first | exact Ao (by omega) (by omega) | exact Au (by omega) (by omega) | exact An (by omega) (by omega)) ?_))
 refine B7 (k := 0) rfl rfl rfl (by omega) ?_
 refine AV rfl bp rfl ?_
 refine A7 (cs := [.pointer (some ⟨b, o, none⟩), .bool false]) rfl rfl (by rfl) (A5 rfl) (fun w7 n7 => ?_)
 refine AJ ?_
 have l3 := b3.lt
 have b37 := b3.keep n7.keep (by simp)
 have z7 := n7.size
 repeat refine nx rfl ?_
 (refine AA (AF rfl (Blk.cell (by assumption) (by rfl)) ?_) <;> refine AF rfl (Blk.cell (by assumption) (by rfl)) ?_ <;> refine Ap rfl (W_sub rfl rfl (by first | exact Ao (by omega) (by omega) | exact Au (by omega) (by omega) | exact An (by omega) (by omega)) ?_))
 refine W_slice_h rfl rfl (by omega) (by omega) ?_
 refine Ah (v := .slice (some ⟨w1.heap.size, 0, none⟩) 0 1) rfl rfl rfl b37 (by simp) (fun w8 p8 => ?_)
 repeat refine nx rfl ?_
 have b7 := n7.blk.keep p8.keep (by simp; omega)
 have k78 : Keep [w2.heap.size] W w8 := (n7.keep.mono (fun _ h => by cases h)).trans p8.keep (fun _ h _ => h)
 have m24 : w.heap.size ≠ w2.heap.size := by omega
 have m25 : w4.heap.size ≠ w2.heap.size := by omega
 have bp8 := bp.keep k78 (by simp; omega)
 have b48 := b4.keep k78 (by simp; omega)
 have b58 := b5.keep k78 (by simp; omega)
 have hG8 := hGW.keep k78 (fun x hx => by simp at hx; omega)
 have hf8 := hfW.keep k78 (fun x hx => by have := hx.2; simp; omega)
 have hJ8 := H.keep (hJ1 rfl) k78 (fun x hx => by simp at hx; omega)
 have kW8 : Keep X w w8 := kW.trans k78 (fun x hx h => by simp at hx; omega)
 have e0 : w8.cell? ⟨W.heap.size, 0 + 0, none⟩ = some (.pointer (some ⟨b, o, none⟩)) := b7.cell rfl
 have e1 : w8.cell? ⟨W.heap.size, 0 + 1, none⟩ = some (.bool false) := b7.cell rfl
 (refine AA (AF rfl (Blk.cell (by assumption) (by rfl)) ?_) <;> refine AD rfl (AF rfl (Blk.cell (by assumption) (by rfl)) ?_) <;> refine AD rfl (AF rfl (Blk.cell (by assumption) (by rfl)) ?_))
 refine CA (v1 := []) (v2 := [pt w2.heap.size, pt w.heap.size, pt w4.heap.size]) (vs := [.pointer (some ⟨b, o, none⟩), .bool false, .int .i64 0]) rfl (visit_ok H w2.heap.size w.heap.size w4.heap.size x4 x5 (dpF f) w8 b o f false 0 [] (Nat.le_refl _) (by omega) hf8 hG8 b48 b58 hJ8 (by simp)) rfl ?_
 rintro _ w9 ⟨k9, hr⟩
 have b39 := p8.blk.keep k9 x3
 have kW9 : Keep X w w9 := kW8.trans k9 (fun _ h _ => h)
 rcases hr with ⟨rfl, hJ9⟩ | ⟨rfl, M, hM1, hM2, hD⟩
 ·refine BB rfl ?_
  repeat first | refine nx rfl ?_ | refine nf rfl ?_
  refine ⟨0, ⟨rfl, ⟨rfl, rfl, trivial⟩, ⟨by omega, kW9, fun h => by omega, fun _ => by simpa using hJ9, hG8.keep k9 H.glob, hf8.keep k9 (fun _ h => h.1), b39, bp8.keep k9 xp, b48.keep k9 x4, b58.keep k9 x5⟩⟩, by omega⟩
 ·refine BB rfl ?_
  repeat refine nx rfl ?_
  exact fin_ret0 rfl ⟨kW9, .inr ⟨M, hM1, hM2, by simpa using hD⟩⟩
theorem nodes_ok (w : World) (b o : Nat) : Fn Tryz.prog 71 [.pointer (some ⟨b, o, none⟩)] w fun v w' => v = .func (.func 116) #[] #[pt w.heap.size] ∧ New w w' 76 [.pointer (some ⟨b, o, none⟩)] := by
 refine Ae Tryz.func71 rfl Tryz.ntmps71 (Nat.le_of_ble_eq_true rfl) (by kernel_rfl) ?_
 repeat refine nx rfl ?_
 (refine AA ?_; refine Bh (L := [.pointer (some ⟨b, o, none⟩)]) rfl (fun w1 n1 => ?_))
 refine AC (A0 ?_)
 repeat refine nx rfl ?_
 refine AA (BI rfl rfl (AC (Cr rfl ?_)))
 repeat refine nx rfl ?_
 exact AP rfl ⟨rfl, n1⟩
theorem preF_len : ∀ f i, (preF i f).length = szF f
 | .mk op nm v b args, i => by
  simp only [preF, szF, List.length_cons, preL_len args]
where preL_len : ∀ (l : List Fml) (i : Bool), (Dc i l).length = szL l
 | [], _ => rfl
 | f :: l, i => by simp only [Dc, szL, List.length_append, preF_len f i, preL_len l i]
theorem fsize_ok (w : World) (v : Value) (f : Fml) (hf : FAt A1 w v f) (hG : GF w) (hN : 10 ≤ w.heap.size) (hd : dpF f ≤ 5000) (hz : szF f ≤ 1000000) : Fn Tryz.prog 39 [v] w fun u w' => u = .int .i64 (szF f : Int) ∧ Ext w w' := by
 have hflt := hf.lt
 obtain ⟨cs, rfl, hcs, hone⟩ := hf.cells
 refine fn_of_wcD Tryz.func39 rfl Tryz.ntmps39 (Nat.le_of_ble_eq_true rfl) (by kernel_rfl) ?_
 repeat refine nx rfl ?_
 (refine AA ?_; refine Bh (L := cs) rfl (fun w1 n1 => ?_))
 refine AC (AH rfl ?_)
 repeat refine nx rfl ?_
 (refine AA ?_; refine Av (fun w2 n2 => ?_))
 refine Ah (v := .int .i64 0) rfl rfl rfl n2.blk (by simp) (fun w3 p3 => ?_)
 repeat refine nx rfl ?_
 have z1 := n1.size
 have z2 := n2.size
 have z3 := p3.size
 have k23 := n2.keep.keep p3.keep (by simp)
 have k3 : Ext w w3 := n1.keep.trans k23
 have b1 := n1.blk.keep k23 (by simp)
 have b2 : Blk w3 w1.heap.size 3 [.int .i64 0] := p3.blk
 have hf3 : PF (fun b => b < w1.heap.size) w3 w.heap.size 0 f := ⟨by omega, cs, hcs, b1.cells, (hflt.ext k3).mono fun x hx => by have := hx.2; omega⟩
 refine AA ?_
 refine AS (nodes_ok w3 _ _) rfl ?_
 rintro _ w4 ⟨rfl, n4⟩
 repeat refine nx rfl ?_
 have z4 := n4.size
 replace b2 := b2.keep n4.keep (by simp)
 replace hf3 := hf3.keep n4.keep (fun _ _ => by simp)
 have b4 := n4.blk
 have k4 : Ext w w4 := k3.trans n4.keep
 refine C_range [] [pt w3.heap.size] rfl (by kernel_rfl) fun Rdy Bsy Don w6 HL k6 s6 m6 r6 => ?_
 replace b2 := b2.keep k6 (by simp)
 replace b4 := b4.keep k6 (by simp)
 replace hf3 := hf3.keep k6 (fun _ _ => by simp)
 have e6 : Ext w w6 := k4.trans k6
 have hlen : w6.heap.size = w.heap.size + 5 := by omega
 obtain ⟨J, hJ⟩ : ∃ J : List Nd → World → Prop, ∀ l W, J l W ↔ (Ext w W ∧ Blk W w1.heap.size 3 [.int .i64 l.length] ∧ Rdy W ∧ W.heap[w4.heap.size]? = some (.deferred (some [])) ) := ⟨_, fun _ _ => Iff.rfl⟩
 have H : NodesR (.func (.yield (w4.heap.size + 1)) #[] #[]) [w1.heap.size, w4.heap.size + 1] w6.heap.size (preF false f) J (fun _ _ => False) := by
  refine ⟨⟨_, rfl⟩, fun x hx => by simp at hx; omega, fun hj k hY => ?_, fun {L W b o g i} hj hp hP => ?_⟩
  ·obtain ⟨j1, j2, j3, j4⟩ := (hJ _ _).1 hj
   exact (hJ _ _).2 ⟨j1.keep k (fun x hx => by have := hY x hx; omega), j2.keep k (fun h => by have := hY _ h; omega), HL.rdy j3 k (fun h => by have := hY _ h; omega), (k.block _ (by have := HL.lt j3; omega) (fun h => by have := hY _ h; omega)).trans j4⟩
  ·obtain ⟨j1, j2, j3, j4⟩ := (hJ _ _).1 hj
   have hlt := HL.lt j3
   have hLl : L.length + 1 ≤ 1000000 := by
    have := hP.length_le
    rw [preF_len] at this
    simp at this; omega
   refine YldP.mono (R := fun v W' => v = .bool true ∧ Keep [w1.heap.size, w4.heap.size + 1] W W' ∧ J (L ++ [(g, i)]) W') (Y := fun _ _ => False) (HL.round j3 rfl ?_) (fun v W' h => ⟨h.2.1, .inl ⟨h.1, h.2.2⟩⟩) (fun _ _ h => h)
   repeat refine nx rfl ?_
   refine ⟨j3, fun W2 q2 y2s y2 => ?_⟩
   replace j2 := j2.keep q2 (by simp; omega)
   replace j4 := (q2.block _ (by omega) (by simp)).trans j4
   have e2 := j1.keep q2 (by simp; omega)
   have q2' : Keep [w1.heap.size, w4.heap.size + 1] W W2 := q2.mono (fun x hx => by simp at hx; simp [hx])
   repeat refine nx rfl ?_
   (refine AA (AF rfl (Blk.cell (by assumption) (by rfl)) ?_) <;> refine BU rfl rfl (by first | exact Ao (by omega) (by omega) | exact Au (by omega) (by omega) | exact An (by omega) (by omega)) ?_)
   refine Ah (v := .int .i64 ((L.length : Int) + 1)) rfl rfl rfl j2 (by simp) (fun W3 p3 => ?_)
   obtain ⟨q3, z3, y3⟩ := p3
   replace j4 := (q3.block _ (by omega) (by simp; omega)).trans j4
   replace e2 := e2.keep q3 (by simp; omega)
   replace y2 := HL.bsy y2 q3 (by simp; omega)
   have q3' : Keep [w1.heap.size, w4.heap.size + 1] W W3 := q2'.trans q3 (fun x hx _ => by simp at hx; simp [hx])
   repeat refine nx rfl ?_
   refine Q_rnd y2 fun W5 q5 z5 y5 => ⟨rfl, q3'.trans q5 (fun x hx _ => by simp at hx; simp [hx]), (hJ _ _).2 ⟨e2.keep q5 (by simp; omega), ?_, y5, (q5.block _ (by omega) (by simp)).trans j4⟩⟩
   rw [show ((L ++ [(g, i)]).length : Int) = (L.length : Int) + 1 by simp]
   exact y3.keep q5 (by simp; omega)
 refine Fn.mono (nodesIt_ok w6 w3.heap.size w.heap.size 0 f H b4 (hf3.mono fun x hx => by simp; omega) (hG.ext e6) (Nat.le_trans hN e6.size) hd ((hJ _ _).2 ⟨e6, b2, r6, m6⟩) (fun x hx => by simp at hx; omega)) ?_
 rintro v w7 ⟨_, hj | ⟨_, _, _, hh⟩⟩
 case inr => exact hh.elim
 obtain ⟨j1, j2, j3, j4⟩ := (hJ _ _).1 hj
 have hlt := HL.lt j3
 refine .inl ⟨j3, fun w8 k8 s8 => ?_⟩
 clear hJ H hj HL r6 m6 b4
 replace j2 := j2.keep k8 (by simp; omega)
 replace j4 := (k8.block _ (by omega) (by simp)).trans j4
 have e8 := j1.keep k8 (by simp; omega)
 rw [preF_len] at j2
 repeat refine nx rfl ?_
 (refine AA (AF rfl (Blk.cell (by assumption) (by rfl)) ?_) <;> refine AC (AH rfl ?_))
 repeat refine nx rfl ?_
 refine finD_mark j4 fun w9 k9 s9 => ?_
 exact finD_ret1 rfl ⟨rfl, e8.keep k9 (by simp; omega)⟩
end Go.Proofs.YtfcgdbmoncnibaaGreatDoor
