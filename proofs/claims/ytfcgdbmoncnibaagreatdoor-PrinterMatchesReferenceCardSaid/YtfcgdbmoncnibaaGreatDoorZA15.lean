/- The reference printer: the text of a specification. The reference: sizes. The reference printer: edits. PrinterMatchesReference walked. A law's close: what the walk gives, as the row wants it; the common part. Formulas, requirements, specifications and edits that come in, opened. Conditions: none. -/
import Derived.Test.YtfcgdbmoncnibaaGreatDoorZA14
import Derived.WalkKit
import Derived.ProofKit
import Derived.OpenShut
import Derived.JoinedCond
import Derived.ChangeStays
import Derived.ReadAgain
import Derived.Deep.Slices

namespace Go.Proofs.YtfcgdbmoncnibaaGreatDoor
open Go.RowKit
set_option linter.unusedVariables false
set_option maxHeartbeats 3200000 in
theorem rspec_ok (w : World) (c : List Value) (s : Spc) (hs : spcR.fits Aw w c s) (hz : szS s ≤ 1000000) : Fn Tryz.prog 17 [.agg c.toArray] w fun u w' => u = AM (if Cr s then spcT s else []) ∧ Ext w w' := by
 obtain ⟨sa, sc, ra, rc, LS, LR, rfl, hN⟩ := spc_cells hs
 have hsl : s.sigs.length ≤ 1000000 := by unfold szS at hz; omega
 have hrz : szR s.reqs ≤ 1000000 := by unfold szS at hz; omega
 have hrl := szR_len s.reqs
 refine Aa Tryz.func17 rfl Tryz.ntmps17 (Nat.le_of_ble_eq_true rfl) (by kernel_rfl) ?_
 repeat' first | refine nx rfl ?_ | fail
 (refine AA ?_; refine BL (L := [.slice sa s.sigs.length sc, .slice ra s.reqs.length rc]) rfl (fun w1 n1 => ?_))
 have hV := hN w1 n1
 have k1 := n1.keep
 have b1 := n1.blk
 ((refine AB ?_; refine AT rfl ?_))
 repeat' first | refine nx rfl ?_ | fail
 (refine AA ?_; refine AW (L := [.slice sa s.sigs.length sc, .slice ra s.reqs.length rc]) rfl b1 rfl ?_)
 refine AR (rprintSpec_ok w1 _ s (spcR.ext hs k1) hz) rfl ?_
 rintro _ w2 ⟨rfl, k2⟩
 generalize hok : Cr s = ok
 refine A4 rfl ?_
 cases ok with
 | false =>
  rw [Bool.not_false]
  repeat' first | refine nx rfl ?_ | fail
  refine AA (AB (AT rfl ?_))
  repeat' first | refine nx rfl ?_ | fail
  exact AL rfl ⟨rfl, k1.trans k2⟩
 | true =>
 rw [Bool.not_true]
 have hok2 := hok
 simp only [Cr, Bool.and_eq_true] at hok2
 obtain ⟨hoks, hokr⟩ := hok2
 have hslen := sigs_len _ hoks
 repeat' first | refine nx rfl ?_ | refine nf rfl ?_
 refine AA (AB (AT rfl ?_))
 repeat' first | refine nx rfl ?_ | fail
 refine AA (AB (AI rfl (AE ?_)))
 repeat' first | refine AE ?_ | refine Cd ?_ | refine Co ?_
 refine Bv (α := Unit) (fun _ => [(1, pt w.heap.size), (3, AM (s.sigs.flatMap sgnT))]) (fun _ W => Ext w1 W) ?_ ?_
 ·repeat' first | refine nx rfl ?_ | fail
  refine BE (α := Nat) (fun k => [(1, pt w.heap.size), (3, AM ((s.sigs.take k).flatMap sgnT)), (4, .int .i64 (k : Int))]) (fun k W => k ≤ s.sigs.length ∧ Ext w1 W) (fun k => s.sigs.length - k) 0 ⟨rfl, rfl, rfl, trivial⟩ ⟨by simp, k2⟩ ?_
  clear k2
  rintro k w2 f2 ⟨hk, k2⟩
  repeat' first | refine nx rfl ?_ | fail
  have hV2 := hV.ext k2
  have c0 := hV2.c0
  by_cases hlt : k < s.sigs.length
  ·(refine AA (AI rfl (AD rfl ?_)) <;> refine AG rfl (by assumption) ?_ <;> refine Ao rfl ?_ <;> (refine As rfl rfl (fun hc => ?_) (fun hc => ?_) <;> try omega))
   repeat' first | refine nx rfl ?_ | fail
   obtain ⟨x, hx⟩ : ∃ x, s.sigs[k]? = some x := ⟨_, List.getElem?_eq_getElem hlt⟩
   obtain ⟨bs, os, rfl, hcx⟩ := hV2.sig hx
   have hxo : okS x = true := List.all_eq_true.1 hoks x (List.mem_of_getElem? hx)
   have hxo2 := hxo
   simp only [okS, numB, Bool.and_eq_true, decide_eq_true_eq] at hxo2
   have hnl := (BB hxo2.1).2.1
   have hnn := CB (n := x.size) (by omega)
   have hpl := sigs_len (s.sigs.take k) (by rw [List.all_eq_true] at hoks ⊢; exact fun y hy => hoks y (List.mem_of_mem_take hy))
   have hpk : (s.sigs.take k).length ≤ s.sigs.length := by simp; omega
   have htk : s.sigs.take (k + 1) = s.sigs.take k ++ [x] := by rw [List.take_add_one, hx]; rfl
   have hfm : (s.sigs.take (k + 1)).flatMap sgnT = (s.sigs.take k).flatMap sgnT ++ sgnT x := by rw [htk, List.flatMap_append]; simp
   generalize hpt : (s.sigs.take k).flatMap sgnT = pt0 at hpl hfm
   (refine AA (AD rfl ?_) <;> refine AG rfl (by assumption) ?_ <;> refine AI rfl ?_)
   refine BP (k := k) rfl rfl rfl (by omega) ?_
   refine AU (L := B7 x) rfl rfl hcx ?_
   refine A7 (cs := B7 x) rfl rfl (by rfl) (sgnR.one (ok := Aw) (w := w) (a := x) rfl) (fun w3 n3 => ?_)
   have b3 := n3.blk
   have kend := k2.trans n3.keep
   have x0 : w3.cell? ⟨w2.heap.size, 0 + 0, none⟩ = some (AM x.name) := b3.cell rfl
   have x1 : w3.cell? ⟨w2.heap.size, 0 + 1, none⟩ = some (.bool x.input) := b3.cell rfl
   have x2 : w3.cell? ⟨w2.heap.size, 0 + 2, none⟩ = some (.int .i64 x.size) := b3.cell rfl
   repeat' first | refine nx rfl ?_ | fail
   clear c0
   (refine AA (AD rfl ?_) <;> refine AG rfl (Blk.cell (by assumption) (by rfl)) ?_)
   refine Ar rfl rfl (by simp; omega) ?_
   ((refine AB ?_; refine AT rfl ?_))
   repeat' first | refine nx rfl ?_ | fail
   (refine AA (AD rfl ?_) <;> refine AG rfl (Blk.cell (by assumption) (by rfl)) ?_ <;> refine AE ?_)
   repeat' first | refine AE ?_ | refine Cd ?_ | refine Co ?_
   refine Bv (α := Unit) (fun _ => [(1, pt w.heap.size), (3, AM pt0), (4, .int .i64 (k : Int)), (5, pt w2.heap.size), (6, AM ((if x.input then [105, 110, 112, 117, 116, 32] else [111, 117, 116, 112, 117, 116, 32]) ++ x.name))]) (fun _ W => w3 = W) ?_ ?_
   ·cases hi : x.input with
    | true =>
     repeat' first | refine nx rfl ?_ | fail
     (refine AA (AD rfl ?_) <;> refine AG rfl (Blk.cell (by assumption) (by rfl)) ?_)
     refine Ar rfl rfl (by simp; omega) ?_
     ((refine AB ?_; refine AT rfl ?_))
     repeat' first | refine nx rfl ?_ | fail
     exact Am () ⟨rfl, rfl, rfl, rfl, rfl, trivial⟩ rfl
    | false =>
     repeat' first | refine nx rfl ?_ | refine nf rfl ?_
     exact Am () ⟨rfl, rfl, rfl, rfl, rfl, trivial⟩ rfl
   rintro _ _ f3 rfl
   generalize hin : ((if x.input then [105, 110, 112, 117, 116, 32] else [111, 117, 116, 112, 117, 116, 32]) ++ x.name : List UInt8) = ln
   have hlnl : ln.length ≤ 19 := by rw [← hin, List.length_append]; split <;> simp <;> omega
   repeat' first | refine nx rfl ?_ | fail
   by_cases h2 : x.size = 2
   ·have hnew : (s.sigs.take (k + 1)).flatMap sgnT = pt0 ++ ln ++ [59, 10] := by rw [hfm, ← hin]; simp [sgnT, h2]
    (refine AA (AD rfl ?_) <;> refine AG rfl (Blk.cell (by assumption) (by rfl)) ?_ <;> (refine CZ rfl rfl (fun hc => ?_) (fun hc => ?_) <;> try omega))
    repeat' first | refine nx rfl ?_ | refine nf rfl ?_
    refine AA (AT rfl (AT rfl ?_))
    refine Ar rfl rfl (by (try simp only [List.length_append, List.length_cons, List.length_nil]); omega) ?_
    refine Ar rfl rfl (by (try simp only [List.length_append, List.length_cons, List.length_nil]); omega) ?_
    ((refine AB ?_; refine AT rfl ?_))
    repeat' first | refine nx rfl ?_ | fail
    (refine AA (AI rfl ?_) <;> refine BD rfl rfl (by first | exact Ah (by omega) (by omega) | exact Aq (by omega) (by omega) | exact Ai (by omega) (by omega)) ?_ <;> refine AB (AI rfl ?_))
    repeat' first | refine nx rfl ?_ | fail
    refine ⟨k + 1, ⟨rfl, ⟨rfl, ?_, ?_, trivial⟩, ⟨hlt, kend⟩⟩, by omega⟩
    ·rw [hnew]; rfl
    ·show Value.int .i64 ((k : Int) + 1) = _
     rw [Int.natCast_add]; rfl
   ·have hnew : (s.sigs.take (k + 1)).flatMap sgnT = pt0 ++ (ln ++ [58, 32] ++ numT x.size) ++ [59, 10] := by rw [hfm, ← hin]; simp [sgnT, h2]
    (refine AA (AD rfl ?_) <;> refine AG rfl (Blk.cell (by assumption) (by rfl)) ?_ <;> (refine CZ rfl rfl (fun hc => ?_) (fun hc => ?_) <;> try omega))
    repeat' first | refine nx rfl ?_ | fail
    refine AA (AT rfl ?_)
    refine Ar rfl rfl (by simp; omega) ?_
    (refine AD rfl ?_ <;> refine AG rfl (Blk.cell (by assumption) (by rfl)) ?_)
    refine AR (rdigits_ok w3 x.size hxo2.2.1 hxo2.2.2) rfl ?_
    rintro _ w4 ⟨rfl, rfl⟩
    refine Ar rfl rfl (by simp; omega) ?_
    ((refine AB ?_; refine AT rfl ?_))
    repeat' first | refine nx rfl ?_ | fail
    refine AA (AT rfl (AT rfl ?_))
    refine Ar rfl rfl (by (try simp only [List.length_append, List.length_cons, List.length_nil]); omega) ?_
    refine Ar rfl rfl (by (try simp only [List.length_append, List.length_cons, List.length_nil]); omega) ?_
    ((refine AB ?_; refine AT rfl ?_))
    repeat' first | refine nx rfl ?_ | fail
    (refine AA (AI rfl ?_) <;> refine BD rfl rfl (by first | exact Ah (by omega) (by omega) | exact Aq (by omega) (by omega) | exact Ai (by omega) (by omega)) ?_ <;> refine AB (AI rfl ?_))
    repeat' first | refine nx rfl ?_ | fail
    refine ⟨k + 1, ⟨rfl, ⟨rfl, ?_, ?_, trivial⟩, ⟨hlt, kend⟩⟩, by omega⟩
    ·rw [hnew]; rfl
    ·show Value.int .i64 ((k : Int) + 1) = _
     rw [Int.natCast_add]; rfl
  ·(refine AA (AI rfl (AD rfl ?_)) <;> refine AG rfl (by assumption) ?_ <;> refine Ao rfl ?_ <;> (refine As rfl rfl (fun hc => ?_) (fun hc => ?_) <;> try omega))
   repeat' first | refine nx rfl ?_ | refine nf rfl ?_
   rw [List.take_of_length_le (by omega)]
   exact Am () ⟨rfl, rfl, trivial⟩ k2
 clear k2
 rintro _ w2 f2 k2
 generalize htt : s.sigs.flatMap sgnT = tt at hslen
 repeat' first | refine nx rfl ?_ | fail
 refine AA (AB (AI rfl ?_))
 repeat' first | refine nx rfl ?_ | fail
 refine BE (α := Nat) (fun k => [(1, pt w.heap.size), (3, AM (tt ++ (List.range k).flatMap (rqI s.reqs))), (7, .int .i64 (k : Int))]) (fun k W => k ≤ s.reqs.length ∧ Ext w1 W) (fun k => s.reqs.length - k) 0 ⟨rfl, by simp; rfl, rfl, trivial⟩ ⟨by simp, k2⟩ ?_
 clear k2
 rintro k w3 f3 ⟨hk, k3⟩
 repeat' first | refine nx rfl ?_ | fail
 have hV3 := hV.ext k3
 have c1 := hV3.c1
 by_cases hlt : k < s.reqs.length
 ·obtain ⟨r, hr⟩ : ∃ r, s.reqs[k]? = some r := ⟨_, List.getElem?_eq_getElem hlt⟩
  have hro : okRq r = true := List.all_eq_true.1 hokr r (List.mem_of_getElem? hr)
  have hro2 := hro
  simp only [okRq, Bool.and_eq_true] at hro2
  have hnl := (BB hro2.1).2.1
  have hrtl := reqT_len hro2.2
  have hzr := szR_mem hr
  have hlen2 := rqs_len s.reqs k hk (by rw [List.all_eq_true] at hokr ⊢; exact fun y hy => hokr y (List.mem_of_mem_take hy))
  have hle2 := szR_le s.reqs k
  generalize hut : tt ++ (List.range k).flatMap (rqI s.reqs) = ut
  have hutl : ut.length ≤ 44000000 + 44 * szR s.reqs := by rw [← hut, List.length_append]; omega
  obtain ⟨br, or, d, _, era, hd8, hcd, hfr⟩ := hV3.req hr
  subst era
  have hprt : ∀ (W : World), Ext w3 W → ∀ j r', s.reqs[j]? = some r' → W.cell? ⟨br, or + j * 8 + 0, none⟩ = some (AM r'.part) := by
   intro W hW j r' hr'
   obtain ⟨_, _, d', _, e, _, hcr', hf'⟩ := (hV3.ext hW).req hr'
   cases e
   obtain ⟨d5, e5, _⟩ := hf'
   exact hcr' 0 _ (by rw [e5]; rfl)
  (refine AA (AI rfl (AD rfl ?_)) <;> refine AG rfl (by assumption) ?_ <;> refine Ao rfl ?_ <;> (refine As rfl rfl (fun hc => ?_) (fun hc => ?_) <;> try omega))
  repeat' first | refine nx rfl ?_ | fail
  generalize hcc : decide (k = 0 ∨ (s.reqs[k - 1]?).map (·.part) ≠ some r.part) = cc
  refine Bv (α := Unit) (fun _ => [(1, pt w.heap.size), (3, AM ut), (7, .int .i64 (k : Int)), (68, .bool cc)]) (fun _ W => Ext w3 W) ?_ ?_
  ·refine BA (.read 0 (.read 1 (.read 2 (.read 3 (.read 4 (.read 5 (.read 6 (.read 7 (.read 8 (.read 9 (.read 10 (.read 11 (.read 12 (.read 13 (.read 14 (.read 15 (.read 16 (.read 17 .done)))))))))))))))))) A6 (by kernel_rfl) (fun wd kd ed => ⟨Ext wd, ?_, ?_⟩)
   ·exact Ext.refl _
   have fsv : ∀ W, Ext wd W → W.cell? ⟨w.heap.size, 0 + 1, none⟩ = some (.slice (some ⟨br, or, none⟩) s.reqs.length rc) := fun W e => (kd.trans e).cell c1 (by simp)
   have fr0 : ∀ W, Ext wd W → W.cell? ⟨br, or + k * 8 + 0, none⟩ = some (AM r.part) := fun W e => hprt W (kd.trans e) k r hr
   by_cases hk0 : k = 0
   ·subst hk0
    have ecc : cc = true := by rw [← hcc]; simp
    subst ecc
    ((apply D_R rfl rfl; (intro W hW; refine AI rfl ?_; exact AE ⟨rfl, rfl, rfl⟩)) <;> (refine D_eql rfl rfl rfl rfl (fun hc => ?_) (fun hc => ?_) <;> try omega) <;> (apply D_R rfl rfl; (intro W hW; refine AC rfl ?_; exact AE ⟨rfl, rfl, rfl⟩)) <;> refine Ab rfl rfl rfl rfl (Ab rfl rfl rfl rfl (Ab rfl rfl rfl rfl (Ab rfl rfl rfl rfl (Ab rfl rfl rfl rfl (Ab rfl rfl rfl rfl (Ab rfl rfl rfl rfl (Ab rfl rfl rfl rfl (Ab rfl rfl rfl rfl (Ab rfl rfl rfl rfl (Ab rfl rfl rfl rfl (Ab rfl rfl rfl rfl (Ab rfl rfl rfl rfl (Ab rfl rfl rfl rfl ?_))))))))))))) <;> (apply D_R rfl rfl; (intro W hW; (refine AN rfl ?_; refine AC rfl ?_); exact AE ⟨rfl, rfl, rfl⟩)) <;> refine A0 ?_)
    repeat' first | refine nx rfl ?_ | fail
    exact Am () ⟨rfl, rfl, rfl, rfl, trivial⟩ kd
   ·obtain ⟨r', hr'⟩ : ∃ r', s.reqs[k - 1]? = some r' := ⟨_, List.getElem?_eq_getElem (by omega)⟩
    have fp0 : ∀ W, Ext wd W → W.cell? ⟨br, or + ((k : Int) - 1).toNat * 8 + 0, none⟩ = some (AM r'.part) := fun W e => by
     rw [show ((k : Int) - 1).toNat = k - 1 by omega]
     exact hprt W (kd.trans e) (k - 1) r' hr'
    ((apply D_R rfl rfl; (intro W hW; refine AI rfl ?_; exact AE ⟨rfl, rfl, rfl⟩)) <;> (refine D_eql rfl rfl rfl rfl (fun hc => ?_) (fun hc => ?_) <;> try omega) <;> (apply D_R rfl rfl; (intro W hW; refine AC rfl ?_; exact AE ⟨rfl, rfl, rfl⟩)) <;> (apply D_R rfl rfl; (intro W hW; (refine AF rfl ?_; refine AD rfl ?_); exact AE ⟨rfl, rfl, rfl⟩)) <;> (apply D_R rfl rfl; (intro W hW; (refine AF rfl ?_; refine AG rfl (fsv W hW) ?_); exact AE ⟨rfl, rfl, rfl⟩)) <;> (apply D_R rfl rfl; (intro W hW; (refine AF rfl ?_; refine AI rfl ?_); exact AE ⟨rfl, rfl, rfl⟩)) <;> (apply D_R rfl rfl; (intro W hW; (refine AF rfl ?_; refine BP rfl rfl rfl (by omega) ?_); exact AE ⟨rfl, rfl, rfl⟩)) <;> (apply D_R rfl rfl; (intro W hW; (refine AF rfl ?_; refine AD rfl ?_); exact AE ⟨rfl, rfl, rfl⟩)) <;> (apply D_R rfl rfl; (intro W hW; (refine AF rfl ?_; refine AG rfl (fr0 W hW) ?_); exact AE ⟨rfl, rfl, rfl⟩)) <;> (apply D_R rfl rfl; (intro W hW; (refine AF rfl ?_; refine AD rfl ?_); exact AE ⟨rfl, rfl, rfl⟩)) <;> (apply D_R rfl rfl; (intro W hW; (refine AF rfl ?_; refine AG rfl (fsv W hW) ?_); exact AE ⟨rfl, rfl, rfl⟩)) <;> (apply D_R rfl rfl; (intro W hW; (refine AF rfl ?_; refine AI rfl ?_); exact AE ⟨rfl, rfl, rfl⟩)) <;> (apply D_R rfl rfl; (intro W hW; (refine AF rfl ?_; refine W_sub rfl rfl (by first | exact Ah (by omega) (by omega) | exact Aq (by omega) (by omega) | exact Ai (by omega) (by omega)) ?_); exact AE ⟨rfl, rfl, rfl⟩)) <;> (apply D_R rfl rfl; (intro W hW; (refine AF rfl ?_; refine A5 rfl rfl (by omega) (by omega) ?_); exact AE ⟨rfl, rfl, rfl⟩)) <;> (apply D_R rfl rfl; (intro W hW; (refine AF rfl ?_; refine AD rfl ?_); exact AE ⟨rfl, rfl, rfl⟩)) <;> (apply D_R rfl rfl; (intro W hW; (refine AF rfl ?_; refine AG rfl (fp0 W hW) ?_); exact AE ⟨rfl, rfl, rfl⟩)) <;> (refine D_sneq rfl rfl rfl rfl (fun hc => ?_) (fun hc => ?_)) <;> (apply D_R rfl rfl; (intro W hW; (refine AQ rfl ?_; refine AC rfl ?_); exact AE ⟨rfl, rfl, rfl⟩)) <;> refine A0 ?_)
    ·have ecc : cc = true := by rw [← hcc, hr']; simp; exact .inr (fun e => by simp_all)
     subst ecc
     repeat' first | refine nx rfl ?_ | fail
     exact Am () ⟨rfl, rfl, rfl, rfl, trivial⟩ kd
    ·have ecc : cc = false := by rw [← hcc, hr']; simp [hk0]; simp_all
     subst ecc
     repeat' first | refine nx rfl ?_ | fail
     exact Am () ⟨rfl, rfl, rfl, rfl, trivial⟩ kd
  rintro _ w4 f4 k4
  have kw4 := k3.trans k4
  have c14 := k4.cell c1 (by simp)
  have hp4 := hprt w4 k4 k r hr
  refine Bv (α := Unit) (fun _ => [(1, pt w.heap.size), (3, AM (ut ++ (if cc then [112, 97, 114, 116, 32] ++ (r.part ++ [32, 123, 10]) else []))), (7, .int .i64 (k : Int))]) (fun _ W => w4 = W) ?_ ?_
  ·cases cc with
   | true =>
    repeat' first | refine nx rfl ?_ | fail
    refine AA (AT rfl ?_)
    refine Ar rfl rfl (by simp; omega) ?_
    (refine AD rfl ?_ <;> refine AG rfl (by assumption) ?_ <;> refine AI rfl ?_ <;> refine BP rfl rfl rfl (by omega) ?_ <;> refine AD rfl ?_ <;> refine AG rfl (by assumption) ?_)
    refine Ar rfl rfl (by simp; omega) ?_
    refine Ar rfl rfl (by simp; omega) ?_
    ((refine AB ?_; refine AT rfl ?_))
    repeat' first | refine nx rfl ?_ | fail
    refine Am () ⟨rfl, ?_, rfl, trivial⟩ rfl
    rw [if_pos rfl, ← List.append_assoc, ← List.append_assoc]
    rfl
   | false =>
    repeat' first | refine nx rfl ?_ | refine nf rfl ?_
    refine Am () ⟨rfl, ?_, rfl, trivial⟩ rfl
    rw [if_neg (by simp), List.append_nil]
    rfl
  rintro _ _ f5 rfl
  generalize hot : (if cc then [112, 97, 114, 116, 32] ++ (r.part ++ [32, 123, 10]) else [] : List UInt8) = ot
  have hotl : ot.length ≤ 20 := by rw [← hot]; split <;> simp; omega
  repeat' first | refine nx rfl ?_ | fail
  refine AA (AT rfl ?_)
  refine Ar rfl rfl (by simp; omega) ?_
  (refine AD rfl ?_ <;> refine AG rfl (by assumption) ?_ <;> refine AI rfl ?_ <;> refine BP rfl rfl rfl (by omega) ?_)
  refine AU (L := d) rfl hd8 (hcd.keep k4 (by simp)) ?_
  refine AR (rreq_ok w4 d r (reqR.ext hfr k4) hro2.2 (by omega)) rfl ?_
  rintro _ w5 ⟨rfl, k5⟩
  refine Ar rfl rfl (by simp; omega) ?_
  refine Ar rfl rfl (by simp; omega) ?_
  ((refine AB ?_; refine AT rfl ?_))
  repeat' first | refine nx rfl ?_ | fail
  have c15 := k5.cell c14 (by simp)
  have k35 := k4.trans k5
  generalize hce : decide (k + 1 = s.reqs.length ∨ (s.reqs[k + 1]?).map (·.part) ≠ some r.part) = ce
  have hot2 : (if k = 0 ∨ (s.reqs[k - 1]?).map (·.part) ≠ some r.part then [112, 97, 114, 116, 32] ++ (r.part ++ [32, 123, 10]) else [] : List UInt8) = ot := by
   rw [← hot, ← hcc]; simp only [decide_eq_true_eq]
  have htext : tt ++ (List.range (k + 1)).flatMap (rqI s.reqs) = ut ++ ot ++ [32, 32] ++ reqT r ++ [59, 10] ++ (if ce then [125, 10] else []) := by
   rw [List.range_succ, List.flatMap_append, ← List.append_assoc, hut]
   have e : rqI s.reqs k = ot ++ ([32, 32] ++ (reqT r ++ ([59, 10] ++ (if ce then [125, 10] else [])))) := by
    unfold rqI
    rw [hr]
    simp only
    rw [hot2, ← hce]
    simp only [decide_eq_true_eq]
   simp [e]
  generalize hnt : ut ++ ot ++ [32, 32] ++ reqT r ++ [59, 10] = nt at htext
  have hntl : nt.length ≤ 10000000000 := by rw [← hnt]; simp; omega
  refine Bv (α := Unit) (fun _ => [(1, pt w.heap.size), (3, AM nt), (7, .int .i64 (k : Int)), (110, .bool ce)]) (fun _ W => Ext w5 W) ?_ ?_
  ·refine BA (.read 0 (.read 1 (.read 2 (.read 3 (.read 4 (.read 5 (.read 6 (.read 7 (.read 8 (.read 9 (.read 10 (.read 11 (.read 12 (.read 13 (.read 14 (.read 15 (.read 16 (.read 17 (.read 18 (.read 19 (.read 20 (.read 21 .done)))))))))))))))))))))) A6 (by kernel_rfl) (fun wd kd ed => ⟨Ext wd, ?_, ?_⟩)
   ·exact Ext.refl _
   have fsv : ∀ W, Ext wd W → W.cell? ⟨w.heap.size, 0 + 1, none⟩ = some (.slice (some ⟨br, or, none⟩) s.reqs.length rc) := fun W e => (kd.trans e).cell c15 (by simp)
   have fr0 : ∀ W, Ext wd W → W.cell? ⟨br, or + k * 8 + 0, none⟩ = some (AM r.part) := fun W e => hprt W ((k35.trans kd).trans e) k r hr
   by_cases hk0 : k + 1 = s.reqs.length
   ·have ecc : ce = true := by rw [← hce]; simp [hk0]
    subst ecc
    ((apply D_R rfl rfl; (intro W hW; refine AI rfl ?_; exact AE ⟨rfl, rfl, rfl⟩)) <;> (apply D_R rfl rfl; (intro W hW; refine AD rfl ?_; exact AE ⟨rfl, rfl, rfl⟩)) <;> (apply D_R rfl rfl; (intro W hW; refine AG rfl (fsv W hW) ?_; exact AE ⟨rfl, rfl, rfl⟩)) <;> (apply D_R rfl rfl; (intro W hW; refine Ao rfl ?_; exact AE ⟨rfl, rfl, rfl⟩)) <;> (apply D_R rfl rfl; (intro W hW; refine W_sub rfl rfl (by first | exact Ah (by omega) (by omega) | exact Aq (by omega) (by omega) | exact Ai (by omega) (by omega)) ?_; exact AE ⟨rfl, rfl, rfl⟩)) <;> (refine D_eql rfl rfl rfl rfl (fun hc => ?_) (fun hc => ?_) <;> try omega) <;> (apply D_R rfl rfl; (intro W hW; refine AC rfl ?_; exact AE ⟨rfl, rfl, rfl⟩)) <;> refine Ab rfl rfl rfl rfl (Ab rfl rfl rfl rfl (Ab rfl rfl rfl rfl (Ab rfl rfl rfl rfl (Ab rfl rfl rfl rfl (Ab rfl rfl rfl rfl (Ab rfl rfl rfl rfl (Ab rfl rfl rfl rfl (Ab rfl rfl rfl rfl (Ab rfl rfl rfl rfl (Ab rfl rfl rfl rfl (Ab rfl rfl rfl rfl (Ab rfl rfl rfl rfl (Ab rfl rfl rfl rfl ?_))))))))))))) <;> (apply D_R rfl rfl; (intro W hW; (refine AN rfl ?_; refine AC rfl ?_); exact AE ⟨rfl, rfl, rfl⟩)) <;> refine A0 ?_)
    repeat' first | refine nx rfl ?_ | fail
    exact Am () ⟨rfl, by rw [← hnt]; rfl, rfl, rfl, trivial⟩ kd
   ·obtain ⟨r', hr'⟩ : ∃ r', s.reqs[k + 1]? = some r' := ⟨_, List.getElem?_eq_getElem (by omega)⟩
    have fp0 : ∀ W, Ext wd W → W.cell? ⟨br, or + ((k : Int) + 1).toNat * 8 + 0, none⟩ = some (AM r'.part) := fun W e => by
     rw [show ((k : Int) + 1).toNat = k + 1 by omega]
     exact hprt W ((k35.trans kd).trans e) (k + 1) r' hr'
    have fp1 : ∀ W, Ext wd W → W.cell? ⟨br, or + (k + 1) * 8 + 0, none⟩ = some (AM r'.part) := fun W e => hprt W ((k35.trans kd).trans e) (k + 1) r' hr'
    ((apply D_R rfl rfl; (intro W hW; refine AI rfl ?_; exact AE ⟨rfl, rfl, rfl⟩)) <;> (apply D_R rfl rfl; (intro W hW; refine AD rfl ?_; exact AE ⟨rfl, rfl, rfl⟩)) <;> (apply D_R rfl rfl; (intro W hW; refine AG rfl (fsv W hW) ?_; exact AE ⟨rfl, rfl, rfl⟩)) <;> (apply D_R rfl rfl; (intro W hW; refine Ao rfl ?_; exact AE ⟨rfl, rfl, rfl⟩)) <;> (apply D_R rfl rfl; (intro W hW; refine W_sub rfl rfl (by first | exact Ah (by omega) (by omega) | exact Aq (by omega) (by omega) | exact Ai (by omega) (by omega)) ?_; exact AE ⟨rfl, rfl, rfl⟩)) <;> (refine D_eql rfl rfl rfl rfl (fun hc => ?_) (fun hc => ?_) <;> try omega) <;> (apply D_R rfl rfl; (intro W hW; refine AC rfl ?_; exact AE ⟨rfl, rfl, rfl⟩)) <;> (apply D_R rfl rfl; (intro W hW; (refine AF rfl ?_; refine AD rfl ?_); exact AE ⟨rfl, rfl, rfl⟩)) <;> (apply D_R rfl rfl; (intro W hW; (refine AF rfl ?_; refine AG rfl (fsv W hW) ?_); exact AE ⟨rfl, rfl, rfl⟩)) <;> (apply D_R rfl rfl; (intro W hW; (refine AF rfl ?_; refine AI rfl ?_); exact AE ⟨rfl, rfl, rfl⟩)) <;> (apply D_R rfl rfl; (intro W hW; (refine AF rfl ?_; refine BP rfl rfl rfl (by omega) ?_); exact AE ⟨rfl, rfl, rfl⟩)) <;> (apply D_R rfl rfl; (intro W hW; (refine AF rfl ?_; refine AD rfl ?_); exact AE ⟨rfl, rfl, rfl⟩)) <;> (apply D_R rfl rfl; (intro W hW; (refine AF rfl ?_; refine AG rfl (fr0 W hW) ?_); exact AE ⟨rfl, rfl, rfl⟩)) <;> (apply D_R rfl rfl; (intro W hW; (refine AF rfl ?_; refine AD rfl ?_); exact AE ⟨rfl, rfl, rfl⟩)) <;> (apply D_R rfl rfl; (intro W hW; (refine AF rfl ?_; refine AG rfl (fsv W hW) ?_); exact AE ⟨rfl, rfl, rfl⟩)) <;> (apply D_R rfl rfl; (intro W hW; (refine AF rfl ?_; refine AI rfl ?_); exact AE ⟨rfl, rfl, rfl⟩)) <;> (apply D_R rfl rfl; (intro W hW; (refine AF rfl ?_; refine BD rfl rfl (by first | exact Ah (by omega) (by omega) | exact Aq (by omega) (by omega) | exact Ai (by omega) (by omega)) ?_); exact AE ⟨rfl, rfl, rfl⟩)) <;> (apply D_R rfl rfl; (intro W hW; (refine AF rfl ?_; refine A5 rfl rfl (by omega) (by omega) ?_); exact AE ⟨rfl, rfl, rfl⟩)) <;> (apply D_R rfl rfl; (intro W hW; (refine AF rfl ?_; refine AD rfl ?_); exact AE ⟨rfl, rfl, rfl⟩)) <;> (apply D_R rfl rfl; (intro W hW; (refine AF rfl ?_; refine AG rfl (fp0 W hW) ?_); exact AE ⟨rfl, rfl, rfl⟩)) <;> (refine D_sneq rfl rfl rfl rfl (fun hc => ?_) (fun hc => ?_)) <;> (apply D_R rfl rfl; (intro W hW; (refine AQ rfl ?_; refine AC rfl ?_); exact AE ⟨rfl, rfl, rfl⟩)) <;> refine A0 ?_)
    ·have ecc : ce = true := by rw [← hce, hr']; simp; exact .inr (fun e => by simp_all)
     subst ecc
     repeat' first | refine nx rfl ?_ | fail
     exact Am () ⟨rfl, by rw [← hnt]; rfl, rfl, rfl, trivial⟩ kd
    ·have ecc : ce = false := by rw [← hce, hr']; simp [hk0]; simp_all
     subst ecc
     repeat' first | refine nx rfl ?_ | fail
     exact Am () ⟨rfl, by rw [← hnt]; rfl, rfl, rfl, trivial⟩ kd
  rintro _ w6 f6 k6
  have kend := (kw4.trans k5).trans k6
  cases ce with
  | true =>
   repeat' first | refine nx rfl ?_ | fail
   refine AA (AT rfl ?_)
   refine Ar rfl rfl (by simp; omega) ?_
   ((refine AB ?_; refine AT rfl ?_))
   repeat' first | refine nx rfl ?_ | fail
   (refine AA (AI rfl ?_) <;> refine BD rfl rfl (by first | exact Ah (by omega) (by omega) | exact Aq (by omega) (by omega) | exact Ai (by omega) (by omega)) ?_ <;> refine AB (AI rfl ?_))
   repeat' first | refine nx rfl ?_ | fail
   refine ⟨k + 1, ⟨rfl, ⟨rfl, ?_, ?_, trivial⟩, ⟨hlt, kend⟩⟩, by omega⟩
   ·rw [htext]; rfl
   ·show Value.int .i64 ((k : Int) + 1) = _
    rw [Int.natCast_add]; rfl
  | false =>
   rw [if_neg (by simp), List.append_nil] at htext
   repeat' first | refine nx rfl ?_ | refine nf rfl ?_
   (refine AA (AI rfl ?_) <;> refine BD rfl rfl (by first | exact Ah (by omega) (by omega) | exact Aq (by omega) (by omega) | exact Ai (by omega) (by omega)) ?_ <;> refine AB (AI rfl ?_))
   repeat' first | refine nx rfl ?_ | fail
   refine ⟨k + 1, ⟨rfl, ⟨rfl, ?_, ?_, trivial⟩, ⟨hlt, kend⟩⟩, by omega⟩
   ·rw [htext]; rfl
   ·show Value.int .i64 ((k : Int) + 1) = _
    rw [Int.natCast_add]; rfl
 ·(refine AA (AI rfl (AD rfl ?_)) <;> refine AG rfl (by assumption) ?_ <;> refine Ao rfl ?_ <;> (refine As rfl rfl (fun hc => ?_) (fun hc => ?_) <;> try omega))
  repeat' first | refine nx rfl ?_ | refine nf rfl ?_
  refine AA (AT rfl (AB (AT rfl ?_)))
  repeat' first | refine nx rfl ?_ | fail
  have e : k = s.reqs.length := by omega
  subst e
  exact AL rfl ⟨by rw [if_pos rfl]; simp only [spcT, rqsT]; rw [htt]; rfl, k1.trans k3⟩
end Go.Proofs.YtfcgdbmoncnibaaGreatDoor
namespace Go.Proofs.YtfcgdbmoncnibaaGreatDoor
open Go.RowKit
set_option linter.unusedVariables false
theorem capped_ok : ∀ (N : Nat) (f : Fml), szF f ≤ N → ∀ (w : World) (v : Value) (l : Nat), l ≤ 1000000 → FAt Aw w v f → Fn Tryz.prog 41 [v, .int .i64 (l : Int)] w fun u w' => u = .int .i64 ((min (szF f) (l + 1) : Nat) : Int) ∧ Ext w w' := by
 intro N
 induction N with
 | zero => intro f hN; have := Cw f; omega
 | succ N ih =>
 intro f hN w v l hl hf
 obtain ⟨av, rfl, L, hS, hFA⟩ := hf.form
 obtain ⟨a, c, rfl, hS'⟩ := id hS
 have hcap : f.args.length ≤ 9223372036854775807 := by obtain ⟨h1, h2, _⟩ := hS'; omega
 have hsz := szF_eq f
 refine Aa Tryz.func41 rfl Tryz.ntmps41 (Nat.le_of_ble_eq_true rfl) (by kernel_rfl) ?_
 repeat' first | refine nx rfl ?_ | fail
 (refine AA ?_; refine BL (L := fcC f (.slice a f.args.length c)) rfl (fun w1 n1 => ?_))
 have b1 := n1.blk
 have k1 := n1.keep
 have c4 : w1.cell? ⟨w.heap.size, 0 + 4, none⟩ = some (.slice a f.args.length c) := b1.cell rfl
 ((refine AB ?_; refine AI rfl ?_))
 repeat' first | refine nx rfl ?_ | fail
 refine AA (AB (AI rfl ?_))
 repeat' first | refine nx rfl ?_ | fail
 refine AA (AB (AI rfl ?_))
 repeat' first | refine nx rfl ?_ | fail
 refine BE (α := Nat) (fun k => [(1, .int .i64 (l : Int)), (2, pt w.heap.size), (5, .int .i64 ((min (1 + szL (f.args.take k)) (l + 1) : Nat) : Int)), (6, .int .i64 (k : Int))]) (fun k W => k ≤ f.args.length ∧ Ext w1 W) (fun k => f.args.length - k) 0 ⟨rfl, rfl, congrArg (Value.int .i64) (by simp [szL]; try omega), rfl, trivial⟩ ⟨by simp, Ext.refl _⟩ ?_
 rintro k w2 f2 ⟨hk, k2⟩
 have e4 := k2.cell c4 (by simp)
 have kw := k1.trans k2
 have htl : szL (f.args.take k) ≤ szL f.args := by
  have : ∀ l m : List Fml, szL (l ++ m) = szL l + szL m := by
   intro l
   induction l with
   | nil => intro m; simp [szL]
   | cons a l ih2 => intro m; simp only [List.cons_append, szL, ih2 m]; omega
  have h2 := this (f.args.take k) (f.args.drop k)
  rw [List.take_append_drop] at h2
  omega
 repeat' first | refine nx rfl ?_ | fail
 generalize hn : min (1 + szL (f.args.take k)) (l + 1) = n
 by_cases hlt : k < f.args.length
 ·by_cases hnl : n ≤ l
  ·(refine AA (AI rfl (AD rfl ?_)) <;> refine AG rfl (by assumption) ?_ <;> refine Ao rfl ?_ <;> (refine As rfl rfl (fun hc => ?_) (fun hc => ?_) <;> try omega) <;> refine AC rfl (AF rfl (AI rfl (AF rfl (AI rfl ?_)))) <;> (refine AF rfl ?_; (refine Bf rfl rfl (fun hc => ?_) (fun hc => ?_) <;> try omega)) <;> refine AN rfl (AC rfl ?_))
   repeat' first | refine nx rfl ?_ | fail
   obtain ⟨x, hx⟩ : ∃ x, f.args[k]? = some x := ⟨_, List.getElem?_eq_getElem hlt⟩
   obtain ⟨cx, hcx⟩ : ∃ cx, L[k]? = some cx := ⟨_, List.getElem?_eq_getElem (by rw [hFA.1]; exact hlt)⟩
   obtain ⟨ba, oa, rfl, hba, hcellx⟩ := hS.fml hFA.2.1 hcx hlt
   have hxm := szL_mem (List.mem_of_getElem? hx)
   have hfx : FAt Aw w2 (.agg cx.toArray) x := (hFA.2.2 k cx x hcx hx).ext kw
   have hcx2 := hcellx.keep kw (by simp)
   have htk : szL (f.args.take (k + 1)) = szL (f.args.take k) + szF x := by
    rw [List.take_add_one, hx]
    have : ∀ l : List Fml, szL (l ++ [x]) = szL l + szF x := by
     intro l
     induction l with
     | nil => simp [szL]
     | cons a l ih2 => simp only [List.cons_append, szL, ih2]; omega
    exact this _
   (refine AA (AI rfl (AD rfl ?_)) <;> refine AG rfl (by assumption) ?_ <;> refine AI rfl ?_)
   refine BP (k := k) rfl rfl rfl (by omega) ?_
   refine AU (L := cx) rfl (hFA.2.1 cx (List.mem_of_getElem? hcx)) hcx2 ?_
   (refine AI rfl (AI rfl ?_) <;> refine W_sub rfl rfl (by first | exact Ah (by omega) (by omega) | exact Aq (by omega) (by omega) | exact Ai (by omega) (by omega)) ?_)
   have esub : (l : Int) - (n : Int) = ((l - n : Nat) : Int) := by omega
   rw [esub]
   refine AR (ih x (by omega) w2 _ (l - n) (by omega) hfx) rfl ?_
   rintro _ w3 ⟨rfl, k3⟩
   have hmin : min (szF x) (l - n + 1) ≤ l + 1 := by omega
   (refine BD rfl rfl (by first | exact Ah (by omega) (by omega) | exact Aq (by omega) (by omega) | exact Ai (by omega) (by omega)) ?_ <;> refine AB (AI rfl ?_))
   repeat' first | refine nx rfl ?_ | fail
   (refine AA (AI rfl ?_) <;> refine BD rfl rfl (by first | exact Ah (by omega) (by omega) | exact Aq (by omega) (by omega) | exact Ai (by omega) (by omega)) ?_ <;> refine AB (AI rfl ?_))
   repeat' first | refine nx rfl ?_ | fail
   refine ⟨k + 1, ⟨rfl, ⟨rfl, rfl, ?_, ?_, trivial⟩, ⟨hlt, k2.trans k3⟩⟩, by omega⟩
   ·refine congrArg (Value.int .i64) ?_
    rw [htk]
    show (n : Int) + ((min (szF x) (l - n + 1) : Nat) : Int) = _
    omega
   ·show Value.int .i64 ((k : Int) + 1) = _
    rw [Int.natCast_add]; rfl
  ·(refine AA (AI rfl (AD rfl ?_)) <;> refine AG rfl (by assumption) ?_ <;> refine Ao rfl ?_ <;> (refine As rfl rfl (fun hc => ?_) (fun hc => ?_) <;> try omega) <;> refine AC rfl (AF rfl (AI rfl (AF rfl (AI rfl ?_)))) <;> (refine AF rfl ?_; (refine Bf rfl rfl (fun hc => ?_) (fun hc => ?_) <;> try omega)) <;> refine AN rfl (AC rfl ?_))
   repeat' first | refine nx rfl ?_ | refine nf rfl ?_
   refine AA (AI rfl (AB (AI rfl ?_)))
   repeat' first | refine nx rfl ?_ | fail
   refine AL rfl ⟨congrArg (Value.int .i64) ?_, kw⟩
   omega
 ·have e : k = f.args.length := by omega
  subst e
  rw [List.take_length] at hn
  (refine AA (AI rfl (AD rfl ?_)) <;> refine AG rfl (by assumption) ?_ <;> refine Ao rfl ?_ <;> (refine As rfl rfl (fun hc => ?_) (fun hc => ?_) <;> try omega) <;> refine AC rfl (AK rfl (AK rfl (AK rfl (AQ rfl (AC rfl ?_))))))
  repeat' first | refine nx rfl ?_ | refine nf rfl ?_
  refine AA (AI rfl (AB (AI rfl ?_)))
  repeat' first | refine nx rfl ?_ | fail
  refine AL rfl ⟨congrArg (Value.int .i64) ?_, kw⟩
  omega
theorem rsmall_ok (w : World) (v : Value) (f : Fml) (l : Nat) (hl : l ≤ 1000000) (hf : FAt Aw w v f) : Fn Tryz.prog 11 [v, .int .i64 (l : Int)] w fun u w' => u = .bool (decide (szF f ≤ l)) ∧ Ext w w' := by
 obtain ⟨av, rfl, L, hS, hFA⟩ := hf.form
 refine Aa Tryz.func11 rfl Tryz.ntmps11 (Nat.le_of_ble_eq_true rfl) (by kernel_rfl) ?_
 repeat' first | refine nx rfl ?_ | fail
 (refine AA ?_; refine BL (L := fcC f av) rfl (fun w1 n1 => ?_))
 have b1 := n1.blk
 have k1 := n1.keep
 ((refine AB ?_; refine AC rfl ?_))
 repeat' first | refine nx rfl ?_ | fail
 (refine AA ?_; refine AW (L := fcC f av) rfl b1 rfl ?_)
 (refine AI rfl ?_)
 refine AR (capped_ok _ f (Nat.le_refl _) w1 _ l hl (hf.ext k1)) rfl ?_
 rintro _ w2 ⟨rfl, k2⟩
 by_cases h : szF f ≤ l
 ·(refine AI rfl ?_ <;> (refine Bf rfl rfl (fun hc => ?_) (fun hc => ?_) <;> try omega) <;> refine AB (AC rfl ?_))
  repeat' first | refine nx rfl ?_ | fail
  exact AL rfl ⟨congrArg Value.bool (by simp [h]), k1.trans k2⟩
 ·(refine AI rfl ?_ <;> (refine Bf rfl rfl (fun hc => ?_) (fun hc => ?_) <;> try omega) <;> refine AB (AC rfl ?_))
  repeat' first | refine nx rfl ?_ | fail
  exact AL rfl ⟨congrArg Value.bool (by simp [h]), k1.trans k2⟩
def smR (r : Rqm) (l : Nat) : Bool := decide (r.name.length ≤ 100) && decide (r.part.length ≤ 100) && decide (szF r.formula ≤ l)
theorem rsmallReq_ok (w : World) (d : List Value) (r : Rqm) (l : Nat) (hl : l ≤ 1000000) (hr : reqR.fits Aw w d r) : Fn Tryz.prog 13 [.agg d.toArray, .int .i64 (l : Int)] w fun u w' => u = .bool (smR r l) ∧ Ext w w' := by
 obtain ⟨d5, rfl, hd5, hfa⟩ := req_parts hr
 refine Aa Tryz.func13 rfl Tryz.ntmps13 (Nat.le_of_ble_eq_true rfl) (by kernel_rfl) ?_
 repeat' first | refine nx rfl ?_ | fail
 (refine AA ?_; refine BL (L := [AM r.part, AM r.name, .int .i64 r.kind] ++ d5) rfl (fun w1 n1 => ?_))
 have b1 := n1.blk
 have k1 := n1.keep
 have c0 : w1.cell? ⟨w.heap.size, 0 + 0, none⟩ = some (AM r.part) := b1.cell rfl
 have c1 : w1.cell? ⟨w.heap.size, 0 + 1, none⟩ = some (AM r.name) := b1.cell rfl
 have c3 : Cells w1 w.heap.size (0 + 3) d5 := Cy b1.cells rfl
 ((refine AB ?_; refine AC rfl ?_))
 repeat' first | refine nx rfl ?_ | fail
 by_cases h1 : r.name.length ≤ 100
 ·by_cases h2 : r.part.length ≤ 100
  ·(refine AA (AD rfl ?_) <;> refine AG rfl (Blk.cell (by assumption) (by rfl)) ?_ <;> refine BH rfl ?_ <;> (refine Bf rfl rfl (fun hc => ?_) (fun hc => ?_) <;> try omega) <;> refine AC rfl (AF rfl (AD rfl ?_)) <;> (refine AF rfl ?_; refine AG rfl (Blk.cell (by assumption) (by rfl)) ?_) <;> refine AF rfl (BH rfl ?_) <;> (refine AF rfl ?_; (refine Bf rfl rfl (fun hc => ?_) (fun hc => ?_) <;> try omega)) <;> refine AN rfl (AC rfl (AC rfl (AF rfl (AD rfl ?_)))))
   (refine AF rfl ?_; refine AU (L := d5) rfl hd5 c3 ?_)
   ((refine AF rfl ?_; refine AI rfl ?_))
   refine AF rfl ?_
   refine AR (rsmall_ok w1 _ r.formula l hl (hfa.ext k1)) rfl ?_
   rintro _ w2 ⟨rfl, k2⟩
   refine AN rfl (AC rfl (AB (AC rfl ?_)))
   repeat' first | refine nx rfl ?_ | fail
   exact AL rfl ⟨congrArg Value.bool (by simp [smR, h1, h2]), k1.trans k2⟩
  ·(refine AA (AD rfl ?_) <;> refine AG rfl (Blk.cell (by assumption) (by rfl)) ?_ <;> refine BH rfl ?_ <;> (refine Bf rfl rfl (fun hc => ?_) (fun hc => ?_) <;> try omega) <;> refine AC rfl (AF rfl (AD rfl ?_)) <;> (refine AF rfl ?_; refine AG rfl (Blk.cell (by assumption) (by rfl)) ?_) <;> refine AF rfl (BH rfl ?_) <;> (refine AF rfl ?_; (refine Bf rfl rfl (fun hc => ?_) (fun hc => ?_) <;> try omega)) <;> refine AN rfl (AC rfl (AC rfl (AK rfl ?_))))
   refine AK rfl (AK rfl (AK rfl (AQ rfl (AC rfl (AB (AC rfl ?_))))))
   repeat' first | refine nx rfl ?_ | fail
   exact AL rfl ⟨congrArg Value.bool (by simp [smR, h2]), k1⟩
 ·(refine AA (AD rfl ?_) <;> refine AG rfl (Blk.cell (by assumption) (by rfl)) ?_ <;> refine BH rfl ?_ <;> (refine Bf rfl rfl (fun hc => ?_) (fun hc => ?_) <;> try omega) <;> refine AC rfl (AK rfl (AK rfl (AK rfl (AK rfl (AQ rfl (AC rfl (AC rfl (AK rfl ?_)))))))))
  refine AK rfl (AK rfl (AK rfl (AQ rfl (AC rfl (AB (AC rfl ?_))))))
  repeat' first | refine nx rfl ?_ | fail
  exact AL rfl ⟨congrArg Value.bool (by simp [smR, h1]), k1⟩
def smS (s : Spc) (l : Nat) : Bool := decide (s.sigs.length ≤ 10) && decide (s.reqs.length ≤ 20) && s.sigs.all (fun x => decide (x.name.length ≤ 100)) && s.reqs.all fun r => smR r l
set_option maxHeartbeats 1600000 in
theorem rsmallSpec_ok (w : World) (c : List Value) (s : Spc) (l : Nat) (hl : l ≤ 1000000) (hs : spcR.fits Aw w c s) : Fn Tryz.prog 12 [.agg c.toArray, .int .i64 (l : Int)] w fun u w' => u = .bool (smS s l) ∧ Ext w w' := by
 obtain ⟨sa, sc, ra, rc, LS, LR, rfl, hN⟩ := spc_cells hs
 refine Aa Tryz.func12 rfl Tryz.ntmps12 (Nat.le_of_ble_eq_true rfl) (by kernel_rfl) ?_
 repeat' first | refine nx rfl ?_ | fail
 (refine AA ?_; refine BL (L := [.slice sa s.sigs.length sc, .slice ra s.reqs.length rc]) rfl (fun w1 n1 => ?_))
 have hV := hN w1 n1
 have k1 := n1.keep
 have c0 := hV.c0
 have c1 := hV.c1
 ((refine AB ?_; refine AC rfl ?_))
 repeat' first | refine nx rfl ?_ | fail
 by_cases h1 : s.sigs.length ≤ 10
 rotate_left
 ·(refine AA (AD rfl ?_) <;> refine AG rfl (by assumption) ?_ <;> refine Ao rfl ?_ <;> (refine Bn rfl rfl (fun hc => ?_) (fun hc => ?_) <;> try omega) <;> refine AC rfl (AK rfl (AK rfl (AK rfl (AK rfl (AN rfl (AC rfl ?_)))))))
  repeat' first | refine nx rfl ?_ | fail
  refine AA (AB (AC rfl ?_))
  repeat' first | refine nx rfl ?_ | fail
  exact AL rfl ⟨congrArg Value.bool (by simp [smS, h1]), k1⟩
 by_cases h2 : s.reqs.length ≤ 20
 rotate_left
 ·(refine AA (AD rfl ?_) <;> refine AG rfl (by assumption) ?_ <;> refine Ao rfl ?_ <;> (refine Bn rfl rfl (fun hc => ?_) (fun hc => ?_) <;> try omega) <;> refine AC rfl (AF rfl (AD rfl (AF rfl ?_))) <;> refine AG rfl (by assumption) ?_ <;> refine AF rfl (Ao rfl ?_) <;> (refine AF rfl ?_; (refine Bn rfl rfl (fun hc => ?_) (fun hc => ?_) <;> try omega)) <;> refine AQ rfl (AC rfl ?_))
  repeat' first | refine nx rfl ?_ | fail
  refine AA (AB (AC rfl ?_))
  repeat' first | refine nx rfl ?_ | fail
  exact AL rfl ⟨congrArg Value.bool (by simp [smS, h2]), k1⟩
 (refine AA (AD rfl ?_) <;> refine AG rfl (by assumption) ?_ <;> refine Ao rfl ?_ <;> (refine Bn rfl rfl (fun hc => ?_) (fun hc => ?_) <;> try omega) <;> refine AC rfl (AF rfl (AD rfl (AF rfl ?_))) <;> refine AG rfl (by assumption) ?_ <;> refine AF rfl (Ao rfl ?_) <;> (refine AF rfl ?_; (refine Bn rfl rfl (fun hc => ?_) (fun hc => ?_) <;> try omega)) <;> refine AQ rfl (AC rfl ?_))
 repeat' first | refine nx rfl ?_ | refine nf rfl ?_
 refine AA (AB (AI rfl (AE ?_)))
 repeat' first | refine AE ?_ | refine Cd ?_ | refine Co ?_
 refine Bv (α := Unit) (fun _ => [(1, .int .i64 (l : Int)), (2, pt w.heap.size)]) (fun _ W => s.sigs.all (fun x => decide (x.name.length ≤ 100)) = true ∧ Ext w1 W) ?_ ?_
 ·repeat' first | refine nx rfl ?_ | fail
  refine BE (α := Nat) (fun k => [(1, .int .i64 (l : Int)), (2, pt w.heap.size), (5, .int .i64 (k : Int))]) (fun k W => k ≤ s.sigs.length ∧ (s.sigs.take k).all (fun x => decide (x.name.length ≤ 100)) = true ∧ Ext w1 W) (fun k => s.sigs.length - k) 0 ⟨rfl, rfl, rfl, trivial⟩ ⟨by simp, by simp, Ext.refl _⟩ ?_
  rintro k w2 f2 ⟨hk, hok, k2⟩
  repeat' first | refine nx rfl ?_ | fail
  have hV2 := hV.ext k2
  have e0 := hV2.c0
  by_cases hlt : k < s.sigs.length
  ·(refine AA (AI rfl (AD rfl ?_)) <;> refine AG rfl (by assumption) ?_ <;> refine Ao rfl ?_ <;> (refine As rfl rfl (fun hc => ?_) (fun hc => ?_) <;> try omega))
   repeat' first | refine nx rfl ?_ | fail
   obtain ⟨x, hx⟩ : ∃ x, s.sigs[k]? = some x := ⟨_, List.getElem?_eq_getElem hlt⟩
   obtain ⟨bs, os, rfl, hcx⟩ := hV2.sig hx
   have x0 : w2.cell? ⟨bs, os + k * 3 + 0, none⟩ = some (AM x.name) := hcx 0 _ rfl
   by_cases hn : x.name.length ≤ 100
   ·(refine AA (AD rfl ?_) <;> refine AG rfl (by assumption) ?_ <;> refine AI rfl ?_ <;> refine BP rfl rfl rfl (by omega) ?_ <;> refine AD rfl ?_ <;> refine AG rfl (by assumption) ?_ <;> refine BH rfl ?_ <;> (refine Bn rfl rfl (fun hc => ?_) (fun hc => ?_) <;> try omega))
    repeat' first | refine nx rfl ?_ | refine nf rfl ?_
    (refine AA (AI rfl ?_) <;> refine BD rfl rfl (by first | exact Ah (by omega) (by omega) | exact Aq (by omega) (by omega) | exact Ai (by omega) (by omega)) ?_ <;> refine AB (AI rfl ?_))
    repeat' first | refine nx rfl ?_ | fail
    refine ⟨k + 1, ⟨rfl, ⟨rfl, rfl, ?_, trivial⟩, ⟨hlt, all_take_succ hx hok (by simp [hn]), k2⟩⟩, by omega⟩
    show Value.int .i64 ((k : Int) + 1) = _
    rw [Int.natCast_add]; rfl
   ·(refine AA (AD rfl ?_) <;> refine AG rfl (by assumption) ?_ <;> refine AI rfl ?_ <;> refine BP rfl rfl rfl (by omega) ?_ <;> refine AD rfl ?_ <;> refine AG rfl (by assumption) ?_ <;> refine BH rfl ?_ <;> (refine Bn rfl rfl (fun hc => ?_) (fun hc => ?_) <;> try omega))
    repeat' first | refine nx rfl ?_ | fail
    refine AA (AB (AC rfl ?_))
    repeat' first | refine nx rfl ?_ | fail
    exact AL rfl ⟨congrArg Value.bool (by simp only [smS]; rw [all_false hx (p := fun x => decide (x.name.length ≤ 100)) (by simp [hn])]; simp), k1.trans k2⟩
  ·(refine AA (AI rfl (AD rfl ?_)) <;> refine AG rfl (by assumption) ?_ <;> refine Ao rfl ?_ <;> (refine As rfl rfl (fun hc => ?_) (fun hc => ?_) <;> try omega))
   repeat' first | refine nx rfl ?_ | refine nf rfl ?_
   rw [List.take_of_length_le (by omega)] at hok
   exact Am () ⟨rfl, rfl, trivial⟩ ⟨hok, k2⟩
 rintro _ w2 f2 ⟨hsok, k2⟩
 repeat' first | refine nx rfl ?_ | fail
 refine AA (AB (AI rfl ?_))
 repeat' first | refine nx rfl ?_ | fail
 refine BE (α := Nat) (fun k => [(1, .int .i64 (l : Int)), (2, pt w.heap.size), (6, .int .i64 (k : Int))]) (fun k W => k ≤ s.reqs.length ∧ (s.reqs.take k).all (fun r => smR r l) = true ∧ Ext w1 W) (fun k => s.reqs.length - k) 0 ⟨rfl, rfl, rfl, trivial⟩ ⟨by simp, by simp, k2⟩ ?_
 clear k2
 rintro k w2 f2 ⟨hk, hok, k2⟩
 repeat' first | refine nx rfl ?_ | fail
 have hV2 := hV.ext k2
 have e1 := hV2.c1
 by_cases hlt : k < s.reqs.length
 ·(refine AA (AI rfl (AD rfl ?_)) <;> refine AG rfl (by assumption) ?_ <;> refine Ao rfl ?_ <;> (refine As rfl rfl (fun hc => ?_) (fun hc => ?_) <;> try omega))
  repeat' first | refine nx rfl ?_ | fail
  obtain ⟨r, hr⟩ : ∃ r, s.reqs[k]? = some r := ⟨_, List.getElem?_eq_getElem hlt⟩
  obtain ⟨bs, os, d, _, rfl, hd8, hcd, hfr⟩ := hV2.req hr
  (refine AA (AD rfl ?_) <;> refine AG rfl (by assumption) ?_ <;> refine AI rfl ?_)
  refine BP (k := k) rfl rfl rfl (by omega) ?_
  refine AU (L := d) rfl hd8 hcd ?_
  (refine AI rfl ?_)
  refine AR (rsmallReq_ok w2 d r l hl hfr) rfl ?_
  rintro _ w3 ⟨rfl, k3⟩
  generalize hb : smR r l = bb
  refine A4 rfl ?_
  cases bb with
  | false =>
   rw [Bool.not_false]
   repeat' first | refine nx rfl ?_ | fail
   refine AA (AB (AC rfl ?_))
   repeat' first | refine nx rfl ?_ | fail
   exact AL rfl ⟨congrArg Value.bool (by simp only [smS]; rw [all_false hr (p := fun r => smR r l) hb]; simp), (k1.trans k2).trans k3⟩
  | true =>
   rw [Bool.not_true]
   repeat' first | refine nx rfl ?_ | refine nf rfl ?_
   (refine AA (AI rfl ?_) <;> refine BD rfl rfl (by first | exact Ah (by omega) (by omega) | exact Aq (by omega) (by omega) | exact Ai (by omega) (by omega)) ?_ <;> refine AB (AI rfl ?_))
   repeat' first | refine nx rfl ?_ | fail
   refine ⟨k + 1, ⟨rfl, ⟨rfl, rfl, ?_, trivial⟩, ⟨hlt, all_take_succ hr hok hb, k2.trans k3⟩⟩, by omega⟩
   show Value.int .i64 ((k : Int) + 1) = _
   rw [Int.natCast_add]; rfl
 ·(refine AA (AI rfl (AD rfl ?_)) <;> refine AG rfl (by assumption) ?_ <;> refine Ao rfl ?_ <;> (refine As rfl rfl (fun hc => ?_) (fun hc => ?_) <;> try omega))
  repeat' first | refine nx rfl ?_ | refine nf rfl ?_
  refine AA (AB (AC rfl ?_))
  repeat' first | refine nx rfl ?_ | fail
  rw [List.take_of_length_le (by omega)] at hok
  exact AL rfl ⟨congrArg Value.bool (by simp only [smS, hsok, hok, decide_eq_true h1, decide_eq_true h2]; rfl), k1.trans k2⟩
theorem smS_sz {s : Spc} {l : Nat} (h : smS s l = true) : szS s ≤ 10 + 20 * (l + 4) := by
 simp only [smS, Bool.and_eq_true, decide_eq_true_eq] at h
 obtain ⟨⟨⟨h1, h2⟩, _⟩, h4⟩ := h
 have : ∀ rs : List Rqm, rs.all (fun r => smR r l) = true → szR rs ≤ rs.length * (l + 4) := by
  intro rs
  induction rs with
  | nil => intro _; simp [szR]
  | cons r rs ih =>
   intro h
   rw [List.all_cons, Bool.and_eq_true] at h
   have h5 := h.1
   simp only [smR, Bool.and_eq_true, decide_eq_true_eq] at h5
   have := ih h.2
   simp only [szR, List.map_cons, List.sum_cons, List.length_cons, Nat.add_mul, Nat.one_mul] at this ⊢
   omega
 have h5 := this _ h4
 have : s.reqs.length * (l + 4) ≤ 20 * (l + 4) := Nat.mul_le_mul_right _ h2
 unfold szS
 omega
end Go.Proofs.YtfcgdbmoncnibaaGreatDoor
namespace Go.Proofs.YtfcgdbmoncnibaaGreatDoor
open Go.RowKit
set_option linter.unusedVariables false
theorem blankB_eq (r : Rqm) : blankB r = true ↔ r.part = [] ∧ r.kind = 0 ∧ r.formula = zeroF := by
 obtain ⟨p, nm, k, f⟩ := r
 cases f with
 | mk op n v b args =>
  simp only [blankB, zeroF, Fml.op, Fml.name, Fml.val, Fml.bound, Fml.args, Bool.and_eq_true, List.isEmpty_iff, decide_eq_true_eq]
  constructor
  ·rintro ⟨⟨⟨⟨⟨⟨h1, h2⟩, h3⟩, h4⟩, h5⟩, h6⟩, h7⟩
   refine ⟨h1, h2, ?_⟩
   rw [of_decide_eq_true h3, h4, of_decide_eq_true h5, of_decide_eq_true h6, h7]
  ·rintro ⟨h1, h2, h3⟩
   cases h3
   exact ⟨⟨⟨⟨⟨⟨h1, h2⟩, rfl⟩, rfl⟩, rfl⟩, rfl⟩, rfl⟩
theorem zeroP_fits (ok : Nat → Prop) (w : World) : FAt ok w (.agg [.int .i64 0, AM [], .int .i64 0, .int .i64 0, .slice none 0 0].toArray) zeroF := FAt.leaf _ _ _ _ _ _
theorem edt_parts {ok : Nat → Prop} {w : World} {c : List Value} {e : Edt} (h : edtR.fits ok w c e) : ∃ d5 : List Value, c = .int .i64 e.kind :: ([AM e.req.part, AM e.req.name, .int .i64 e.req.kind] ++ d5) ∧ d5.length = 5 ∧ FAt ok w (.agg d5.toArray) e.req.formula ∧ reqR.fits ok w ([AM e.req.part, AM e.req.name, .int .i64 e.req.kind] ++ d5) e.req := by
 obtain ⟨d, rfl, d5, rfl, hd5, hfa⟩ := h
 exact ⟨d5, rfl, hd5, hfa, d5, rfl, hd5, hfa⟩
set_option maxHeartbeats 1600000 in
theorem rprintEdit_ok (w : World) (c : List Value) (e : Edt) (he : edtR.fits Aw w c e) (hz : szF e.req.formula ≤ 1000000) : Fn Tryz.prog 27 [.agg c.toArray] w fun u w' => u = .bool (okE e) ∧ Ext w w' := by
 obtain ⟨d5, rfl, hd5, hfa, hfr⟩ := edt_parts he
 refine Aa Tryz.func27 rfl Tryz.ntmps27 (Nat.le_of_ble_eq_true rfl) (by kernel_rfl) ?_
 repeat' first | refine nx rfl ?_ | fail
 (refine AA ?_; refine BL (L := .int .i64 e.kind :: ([AM e.req.part, AM e.req.name, .int .i64 e.req.kind] ++ d5)) rfl (fun w1 n1 => ?_))
 have b1 := n1.blk
 have k1 := n1.keep
 have c0 : w1.cell? ⟨w.heap.size, 0 + 0, none⟩ = some (.int .i64 e.kind) := b1.cell rfl
 have c1 : w1.cell? ⟨w.heap.size, 0 + 1 + 0, none⟩ = some (AM e.req.part) := b1.cell rfl
 have c2 : w1.cell? ⟨w.heap.size, 0 + 1 + 1, none⟩ = some (AM e.req.name) := b1.cell rfl
 have c3 : w1.cell? ⟨w.heap.size, 0 + 1 + 2, none⟩ = some (.int .i64 e.req.kind) := b1.cell rfl
 have cr : Cells w1 w.heap.size (0 + 1) ([AM e.req.part, AM e.req.name, .int .i64 e.req.kind] ++ d5) := Cy (l := [.int .i64 e.kind]) b1.cells rfl
 have cf : Cells w1 w.heap.size (0 + 1 + 3) d5 := Cy cr rfl
 ((refine AB ?_; refine AC rfl ?_))
 repeat' first | refine nx rfl ?_ | fail
 by_cases h2 : e.kind = 2
 ·have hbl : blankB e.req = false → okE e = false := fun h => by unfold okE; rw [if_pos h2, h]; rfl
  (refine AA (AD rfl ?_) <;> refine AG rfl (Blk.cell (by assumption) (by rfl)) ?_ <;> (refine AH rfl rfl (fun hc => ?_) (fun hc => ?_) <;> try omega))
  repeat' first | refine nx rfl ?_ | fail
  by_cases hp : e.req.part = []
  ·by_cases hk : e.req.kind = 0
   ·(refine AA (AD rfl (AD rfl ?_)) <;> refine AG rfl (Blk.cell (by assumption) (by rfl)) ?_ <;> refine Bu rfl rfl (fun hc => ?_) (fun hc => ?_) <;> refine AC rfl ?_ <;> (first | refine AK rfl ?_ | (refine AF rfl ?_; refine AD rfl ?_)) <;> (first | refine AK rfl ?_ | (refine AF rfl ?_; refine AD rfl ?_)) <;> (first | refine AK rfl ?_ | (refine AF rfl ?_; refine AG rfl (Blk.cell (by assumption) (by rfl)) ?_)) <;> (first | refine AK rfl ?_ | (refine AF rfl ?_; (refine AH rfl rfl (fun hc => ?_) (fun hc => ?_) <;> try omega))) <;> ((first | refine AN rfl ?_ | refine AQ rfl ?_); refine AC rfl ?_) <;> refine AC rfl ?_ <;> (first | refine AK rfl ?_ | (refine AF rfl ?_; refine AD rfl ?_)) <;> (first | refine AK rfl ?_ | (refine AF rfl ?_; refine AD rfl ?_)))
    (try (exfalso; simp_all; done))
    all_goals try (exfalso; exact absurd hp (by assumption))
    (refine AF rfl ?_; refine AU (L := d5) rfl hd5 cf ?_)
    (refine AF rfl ?_; refine Ac (vs := []) (out := [.int .i64 0, AM [], .int .i64 0, .int .i64 0, .slice none 0 0]) rfl (by kernel_rfl) ?_)
    (refine AF rfl ?_; refine AR (same_ok w1 _ _ e.req.formula zeroF (hfa.ext k1) (zeroP_fits _ _)) rfl ?_)
    rintro _ w2 ⟨b, rfl, hb, k2⟩
    cases b with
    | false =>
     have hbf : blankB e.req = false := by rw [← Bool.not_eq_true, blankB_eq]; intro h; have := hb.2 h.2.2; cases this
     refine AN rfl (AC rfl (AC rfl (AK rfl (AK rfl (AK rfl (AK rfl (AQ rfl (AC rfl (AB (AC rfl ?_))))))))))
     repeat' first | refine nx rfl ?_ | fail
     exact AL rfl ⟨by rw [hbl hbf]; rfl, k1.trans k2⟩
    | true =>
     have hbt : blankB e.req = true := (blankB_eq _).2 ⟨hp, hk, hb.1 rfl⟩
     have e2 := k2.cell c2 (by simp)
     clear c0 c1 c2 c3
     (refine AN rfl (AC rfl (AC rfl (AF rfl (AD rfl (AF rfl (AD rfl (AF rfl ?_))))))) <;> refine AG rfl (by assumption) ?_)
     (refine AF rfl ?_; refine AR (refName_ok e.req.name w2) rfl ?_)
     rintro _ w3 ⟨rfl, k3⟩
     refine AN rfl (AC rfl (AB (AC rfl ?_)))
     repeat' first | refine nx rfl ?_ | fail
     exact AL rfl ⟨congrArg Value.bool (by unfold okE; rw [if_pos h2, hbt, Bool.true_and]), (k1.trans k2).trans k3⟩
   ·have hbf : blankB e.req = false := by rw [← Bool.not_eq_true, blankB_eq]; intro h; exact hk h.2.1
    (refine AA (AD rfl (AD rfl ?_)) <;> refine AG rfl (Blk.cell (by assumption) (by rfl)) ?_ <;> refine Bu rfl rfl (fun hc => ?_) (fun hc => ?_) <;> refine AC rfl ?_ <;> (first | refine AK rfl ?_ | (refine AF rfl ?_; refine AD rfl ?_)) <;> (first | refine AK rfl ?_ | (refine AF rfl ?_; refine AD rfl ?_)) <;> (first | refine AK rfl ?_ | (refine AF rfl ?_; refine AG rfl (Blk.cell (by assumption) (by rfl)) ?_)) <;> (first | refine AK rfl ?_ | (refine AF rfl ?_; (refine AH rfl rfl (fun hc => ?_) (fun hc => ?_) <;> try omega))) <;> ((first | refine AN rfl ?_ | refine AQ rfl ?_); refine AC rfl ?_) <;> refine AC rfl (AK rfl (AK rfl ?_)))
    all_goals try (exfalso; exact absurd hp (by assumption))
    refine AK rfl (AK rfl (AK rfl (AQ rfl (AC rfl (AC rfl (AK rfl (AK rfl (AK rfl (AK rfl (AQ rfl (AC rfl (AB (AC rfl ?_)))))))))))))
    repeat' first | refine nx rfl ?_ | fail
    exact AL rfl ⟨by rw [hbl hbf]; rfl, k1⟩
  ·have hbf : blankB e.req = false := by rw [← Bool.not_eq_true, blankB_eq]; intro h; exact hp h.1
   (refine AA (AD rfl (AD rfl ?_)) <;> refine AG rfl (Blk.cell (by assumption) (by rfl)) ?_ <;> refine Bu rfl rfl (fun hc => ?_) (fun hc => ?_) <;> refine AC rfl ?_ <;> (first | refine AK rfl ?_ | (refine AF rfl ?_; refine AD rfl ?_)) <;> (first | refine AK rfl ?_ | (refine AF rfl ?_; refine AD rfl ?_)) <;> (first | refine AK rfl ?_ | (refine AF rfl ?_; refine AG rfl (Blk.cell (by assumption) (by rfl)) ?_)) <;> (first | refine AK rfl ?_ | (refine AF rfl ?_; (refine AH rfl rfl (fun hc => ?_) (fun hc => ?_) <;> try omega))) <;> ((first | refine AN rfl ?_ | refine AQ rfl ?_); refine AC rfl ?_) <;> refine AC rfl ?_ <;> (first | refine AK rfl ?_ | (refine AF rfl ?_; refine AD rfl ?_)) <;> (first | refine AK rfl ?_ | (refine AF rfl ?_; refine AD rfl ?_)))
   all_goals try (exfalso; exact absurd (by assumption) hp)
   refine AK rfl (AK rfl (AK rfl (AQ rfl (AC rfl (AC rfl (AK rfl (AK rfl (AK rfl (AK rfl (AQ rfl (AC rfl (AB (AC rfl ?_)))))))))))))
   repeat' first | refine nx rfl ?_ | fail
   exact AL rfl ⟨by rw [hbl hbf]; rfl, k1⟩
 ·have eok : okE e = ((decide (e.kind = 1) || decide (e.kind = 3)) && okRq e.req) := by unfold okE; rw [if_neg h2]; simp only [okRq, Bool.and_assoc]
  (refine AA (AD rfl ?_) <;> refine AG rfl (Blk.cell (by assumption) (by rfl)) ?_ <;> (refine AH rfl rfl (fun hc => ?_) (fun hc => ?_) <;> try omega))
  repeat' first | refine nx rfl ?_ | refine nf rfl ?_
  by_cases h13 : e.kind = 1 ∨ e.kind = 3
  ·have hk13 : (decide (e.kind = 1) || decide (e.kind = 3)) = true := by simpa using h13
   rcases h13 with h13 | h13
   all_goals
    (refine AA (AD rfl ?_) <;> refine AG rfl (Blk.cell (by assumption) (by rfl)) ?_ <;> (refine AH rfl rfl (fun hc => ?_) (fun hc => ?_) <;> try omega) <;> refine AC rfl ?_ <;> (first | refine AK rfl ?_ | (refine AF rfl ?_; refine AD rfl ?_)) <;> (first | refine AK rfl ?_ | (refine AF rfl ?_; refine AG rfl (Blk.cell (by assumption) (by rfl)) ?_)) <;> (first | refine AK rfl ?_ | (refine AF rfl ?_; (refine AH rfl rfl (fun hc => ?_) (fun hc => ?_) <;> try omega))) <;> ((first | refine AN rfl ?_ | refine AQ rfl ?_); refine AC rfl ?_) <;> refine AC rfl (AF rfl (AD rfl ?_)))
    (refine AF rfl ?_; refine AU (L := [AM e.req.part, AM e.req.name, .int .i64 e.req.kind] ++ d5) rfl (by simp [hd5]) cr ?_)
    (refine AF rfl ?_; refine AR (rprintReq_ok w1 _ e.req (reqR.ext hfr k1) hz) rfl ?_)
    rintro _ w2 ⟨rfl, k2⟩
    refine AN rfl (AC rfl (AB (AC rfl ?_)))
    repeat' first | refine nx rfl ?_ | fail
    exact AL rfl ⟨congrArg Value.bool (by rw [eok, hk13, Bool.true_and]), k1.trans k2⟩
  ·have e1 : ¬ e.kind = 1 := fun h => h13 (.inl h)
   have e3 : ¬ e.kind = 3 := fun h => h13 (.inr h)
   (refine AA (AD rfl ?_) <;> refine AG rfl (Blk.cell (by assumption) (by rfl)) ?_ <;> (refine AH rfl rfl (fun hc => ?_) (fun hc => ?_) <;> try omega) <;> refine AC rfl (AF rfl (AD rfl ?_)) <;> (refine AF rfl ?_; refine AG rfl (Blk.cell (by assumption) (by rfl)) ?_) <;> (refine AF rfl ?_; (refine AH rfl rfl (fun hc => ?_) (fun hc => ?_) <;> try omega)) <;> refine AQ rfl (AC rfl (AC rfl (AK rfl ?_))))
   refine AK rfl (AK rfl (AQ rfl (AC rfl (AB (AC rfl ?_)))))
   repeat' first | refine nx rfl ?_ | fail
   exact AL rfl ⟨congrArg Value.bool (by rw [eok]; simp [e1, e3]), k1⟩
set_option maxHeartbeats 1600000 in
theorem redit_ok (w : World) (c : List Value) (e : Edt) (he : edtR.fits Aw w c e) (hz : szF e.req.formula ≤ 1000000) : Fn Tryz.prog 19 [.agg c.toArray] w fun u w' => u = AM (if okE e then edtT e else []) ∧ Ext w w' := by
 obtain ⟨d5, rfl, hd5, hfa, hfr⟩ := edt_parts he
 have hd8 : ([AM e.req.part, AM e.req.name, .int .i64 e.req.kind] ++ d5).length = 8 := by simp [hd5]
 refine Aa Tryz.func19 rfl Tryz.ntmps19 (Nat.le_of_ble_eq_true rfl) (by kernel_rfl) ?_
 repeat' first | refine nx rfl ?_ | fail
 (refine AA ?_; refine BL (L := .int .i64 e.kind :: ([AM e.req.part, AM e.req.name, .int .i64 e.req.kind] ++ d5)) rfl (fun w1 n1 => ?_))
 have b1 := n1.blk
 have k1 := n1.keep
 ((refine AB ?_; refine AT rfl ?_))
 repeat' first | refine nx rfl ?_ | fail
 (refine AA ?_; refine AW (L := .int .i64 e.kind :: ([AM e.req.part, AM e.req.name, .int .i64 e.req.kind] ++ d5)) rfl b1 (by simp [hd5]) ?_)
 refine AR (rprintEdit_ok w1 _ e (edtR.ext he k1) hz) rfl ?_
 rintro _ w2 ⟨rfl, k2⟩
 have b2 := b1.keep k2 (by simp)
 have e0c : w2.cell? ⟨w.heap.size, 0 + 0, none⟩ = some (.int .i64 e.kind) := b2.cell rfl
 have e1c : w2.cell? ⟨w.heap.size, 0 + 1 + 0, none⟩ = some (AM e.req.part) := b2.cell rfl
 have e2c : w2.cell? ⟨w.heap.size, 0 + 1 + 1, none⟩ = some (AM e.req.name) := b2.cell rfl
 have erc : Cells w2 w.heap.size (0 + 1) ([AM e.req.part, AM e.req.name, .int .i64 e.req.kind] ++ d5) := Cy (l := [.int .i64 e.kind]) b2.cells rfl
 have k12 := k1.trans k2
 generalize hok : okE e = ok
 refine A4 rfl ?_
 cases ok with
 | false =>
  rw [Bool.not_false]
  repeat' first | refine nx rfl ?_ | fail
  refine AA (AB (AT rfl ?_))
  repeat' first | refine nx rfl ?_ | fail
  exact AL rfl ⟨rfl, k12⟩
 | true =>
 rw [Bool.not_true]
 repeat' first | refine nx rfl ?_ | refine nf rfl ?_
 (refine AA (AD rfl ?_) <;> refine AG rfl (Blk.cell (by assumption) (by rfl)) ?_)
 repeat' first | refine nx rfl ?_ | fail
 have hok2 := hok
 unfold okE at hok2
 by_cases h2 : e.kind = 2
 ·rw [if_pos h2, Bool.and_eq_true] at hok2
  have hnl := (BB hok2.2).2.1
  (refine AA ?_ <;> (refine AH rfl rfl (fun hc => ?_) (fun hc => ?_) <;> try omega) <;> refine AB (AC rfl ?_))
  repeat' first | refine nx rfl ?_ | fail
  (refine AA (AD rfl (AD rfl ?_)) <;> refine AG rfl (Blk.cell (by assumption) (by rfl)) ?_)
  refine Ar rfl rfl (by simp; omega) ?_
  ((refine AB ?_; refine AT rfl ?_))
  repeat' first | refine nx rfl ?_ | fail
  exact AL rfl ⟨by rw [if_pos rfl, edtT, if_pos h2]; rfl, k12⟩
 ·rw [if_neg h2] at hok2
  simp only [Bool.and_eq_true, Bool.or_eq_true, decide_eq_true_eq] at hok2
  have hrok := hok2.2
  have hnl := (BB hok2.1.2).2.1
  have hrl := reqT_len hrok
  by_cases h1 : e.kind = 1
  ·(refine AA ?_ <;> (refine AH rfl rfl (fun hc => ?_) (fun hc => ?_) <;> try omega) <;> refine AB (AC rfl ?_))
   repeat' first | refine nx rfl ?_ | refine nf rfl ?_
   (refine AA ?_ <;> (refine AH rfl rfl (fun hc => ?_) (fun hc => ?_) <;> try omega) <;> refine AB (AC rfl ?_))
   repeat' first | refine nx rfl ?_ | fail
   refine BA (.read 0 (.read 1 (.read 2 (.read 3 (.read 4 (.read 5 (.read 6 (.alt 7 (.read 8 (.read 9 .done)) .stop)))))))) A6 (by kernel_rfl) (fun wd kd ed => ⟨Ext wd, ?_, ?_⟩)
   ·exact Ext.refl _
   have d1 : ∀ W, Ext wd W → W.cell? ⟨w.heap.size, 0 + 1 + 0, none⟩ = some (AM e.req.part) := fun W q => (kd.trans q).cell e1c (by simp)
   have dr : ∀ W, Ext wd W → Cells W w.heap.size (0 + 1) ([AM e.req.part, AM e.req.name, .int .i64 e.req.kind] ++ d5) := fun W q => erc.keep (kd.trans q) (by simp)
   ((apply D_R rfl rfl; (intro W hW; refine AD rfl ?_; exact AE ⟨rfl, rfl, rfl⟩)) <;> (apply D_R rfl rfl; (intro W hW; refine AD rfl ?_; exact AE ⟨rfl, rfl, rfl⟩)) <;> (apply D_R rfl rfl; (intro W hW; refine AG rfl (d1 W hW) ?_; exact AE ⟨rfl, rfl, rfl⟩)))
   (apply D_R rfl rfl; (intro W hW; (refine Ar rfl rfl (by (try simp); omega) ?_); exact AE ⟨rfl, rfl, rfl⟩))
   (apply D_R rfl rfl; (intro W hW; (refine Ar rfl rfl (by (try simp); omega) ?_); exact AE ⟨rfl, rfl, rfl⟩))
   ((apply D_R rfl rfl; (intro W hW; refine AD rfl ?_; exact AE ⟨rfl, rfl, rfl⟩)))
   (apply D_R rfl rfl; (intro W hW; (refine AU rfl hd8 (dr W hW) ?_); exact AE ⟨rfl, rfl, rfl⟩))
   refine D_E rfl ?_
   refine AR (rreq_ok wd _ e.req (reqR.ext hfr (k12.trans kd)) hrok hz) rfl ?_
   rintro _ w3 ⟨rfl, k3⟩
   refine AE ⟨Ext w3, fun _ e => k3.trans e, Ext.refl _, ?_⟩
   (apply D_R rfl rfl; (intro W hW; (refine Ar rfl rfl (by (try simp); omega) ?_); exact AE ⟨rfl, rfl, rfl⟩))
   ((apply D_R rfl rfl; (intro W hW; (refine AB ?_; refine AT rfl ?_); exact AE ⟨rfl, rfl, rfl⟩)) <;> refine A0 ?_)
   repeat' first | refine nx rfl ?_ | fail
   refine AL rfl ⟨?_, (k12.trans kd).trans k3⟩
   have et : edtT e = [97, 100, 100, 32] ++ e.req.part ++ [32] ++ reqT e.req := by simp [edtT, *]
   rw [if_pos rfl, et]
   rfl
  ·(refine AA ?_ <;> (refine AH rfl rfl (fun hc => ?_) (fun hc => ?_) <;> try omega) <;> refine AB (AC rfl ?_))
   repeat' first | refine nx rfl ?_ | refine nf rfl ?_
   (refine AA ?_ <;> (refine AH rfl rfl (fun hc => ?_) (fun hc => ?_) <;> try omega) <;> refine AB (AC rfl ?_))
   repeat' first | refine nx rfl ?_ | refine nf rfl ?_
   refine BA (.read 0 (.read 1 (.read 2 (.read 3 (.read 4 (.read 5 (.read 6 (.alt 7 (.read 8 (.read 9 .done)) .stop)))))))) A6 (by kernel_rfl) (fun wd kd ed => ⟨Ext wd, ?_, ?_⟩)
   ·exact Ext.refl _
   have d1 : ∀ W, Ext wd W → W.cell? ⟨w.heap.size, 0 + 1 + 0, none⟩ = some (AM e.req.part) := fun W q => (kd.trans q).cell e1c (by simp)
   have dr : ∀ W, Ext wd W → Cells W w.heap.size (0 + 1) ([AM e.req.part, AM e.req.name, .int .i64 e.req.kind] ++ d5) := fun W q => erc.keep (kd.trans q) (by simp)
   ((apply D_R rfl rfl; (intro W hW; refine AD rfl ?_; exact AE ⟨rfl, rfl, rfl⟩)) <;> (apply D_R rfl rfl; (intro W hW; refine AD rfl ?_; exact AE ⟨rfl, rfl, rfl⟩)) <;> (apply D_R rfl rfl; (intro W hW; refine AG rfl (d1 W hW) ?_; exact AE ⟨rfl, rfl, rfl⟩)))
   (apply D_R rfl rfl; (intro W hW; (refine Ar rfl rfl (by (try simp); omega) ?_); exact AE ⟨rfl, rfl, rfl⟩))
   (apply D_R rfl rfl; (intro W hW; (refine Ar rfl rfl (by (try simp); omega) ?_); exact AE ⟨rfl, rfl, rfl⟩))
   ((apply D_R rfl rfl; (intro W hW; refine AD rfl ?_; exact AE ⟨rfl, rfl, rfl⟩)))
   (apply D_R rfl rfl; (intro W hW; (refine AU rfl hd8 (dr W hW) ?_); exact AE ⟨rfl, rfl, rfl⟩))
   refine D_E rfl ?_
   refine AR (rreq_ok wd _ e.req (reqR.ext hfr (k12.trans kd)) hrok hz) rfl ?_
   rintro _ w3 ⟨rfl, k3⟩
   refine AE ⟨Ext w3, fun _ e => k3.trans e, Ext.refl _, ?_⟩
   (apply D_R rfl rfl; (intro W hW; (refine Ar rfl rfl (by (try simp); omega) ?_); exact AE ⟨rfl, rfl, rfl⟩))
   ((apply D_R rfl rfl; (intro W hW; (refine AB ?_; refine AT rfl ?_); exact AE ⟨rfl, rfl, rfl⟩)) <;> refine A0 ?_)
   repeat' first | refine nx rfl ?_ | fail
   refine AL rfl ⟨?_, (k12.trans kd).trans k3⟩
   have et : edtT e = [114, 101, 112, 108, 97, 99, 101, 32] ++ e.req.part ++ [32] ++ reqT e.req := by simp [edtT, *]
   rw [if_pos rfl, et]
   rfl
end Go.Proofs.YtfcgdbmoncnibaaGreatDoor
namespace Go.Proofs.YtfcgdbmoncnibaaGreatDoor
open Go.RowKit
set_option linter.unusedVariables false
set_option maxHeartbeats 1600000 in
theorem matches_ok (w : World) (v : Value) (f : Fml) (cs : List Value) (s : Spc) (ce : List Value) (e : Edt) (hf : FAt Aw w v f) (hs : spcR.fits Aw w cs s) (he : edtR.fits Aw w ce e) (hG : GP w) (hF : GF w) :
  Fn Tryz.prog 3 [v, .agg cs.toArray, .agg ce.toArray] w fun u w' => u = .bool true ∧ Ext w w' := by
 obtain ⟨cf, rfl, hcf, _⟩ := hf.cells
 obtain ⟨er, rfl, hl8, her⟩ : ∃ er, ce = .int .i64 e.kind :: er ∧ er.length = 8 ∧ reqR.fits Aw w er e.req := by
  obtain ⟨d, rfl, hd⟩ := he
  exact ⟨d, rfl, reqR.len hd, hd⟩
 refine Aa Tryz.func3 rfl Tryz.ntmps3 (Nat.le_of_ble_eq_true rfl) (by kernel_rfl) ?_
 repeat' first | refine nx rfl ?_ | fail
 (refine AA ?_; refine BL (L := cf) rfl (fun w1 n1 => ?_))
 refine BL (L := cs) rfl (fun w2 n2 => ?_)
 refine BL (L := .int .i64 e.kind :: er) rfl (fun w3 n3 => ?_)
 ((refine AB ?_; refine AC rfl ?_))
 repeat' first | refine nx rfl ?_ | fail
 have k23 := n2.keep.trans n3.keep
 have k3 : Ext w w3 := n1.keep.trans k23
 (refine AA ?_)
 refine AR (head_ok w3 (hG.ext k3) (hF.ext k3)) rfl ?_
 rintro _ w4 ⟨rfl, k4⟩
 ((refine AB ?_; refine AC rfl ?_))
 repeat' first | refine nx rfl ?_ | fail
 have k04 := k3.trans k4
 have bf := n1.blk.keep (k23.trans k4) (by simp)
 have bs := n2.blk.keep (n3.keep.trans k4) (by simp)
 have be := n3.blk.keep k4 (by simp)
 replace hf := hf.ext k04
 replace hs := spcR.ext hs k04
 replace he := edtR.ext he k04
 replace her := reqR.ext her k04
 clear n1 n2 n3 k23 k3
 (refine AA ?_; refine AW rfl bf hcf ?_)
 refine AR (rsmall_ok w4 _ f 400 (by omega) hf) rfl ?_
 rintro _ w5 ⟨rfl, k5⟩
 by_cases hf4 : szF f ≤ 400
 case neg =>
  rw [decide_eq_false hf4]
  refine A4 rfl (AC rfl (AK rfl (AK rfl (AK rfl (AN rfl (AC rfl (AC rfl (AK rfl (AK rfl (AK rfl (AK rfl (AN rfl (AC rfl ?_)))))))))))))
  repeat' first | refine nx rfl ?_ | fail
  refine AA (AC rfl (AB (AC rfl ?_)))
  repeat' first | refine nx rfl ?_ | fail
  exact AL rfl ⟨rfl, k04.trans k5⟩
 rw [decide_eq_true hf4]
 refine A4 rfl (AC rfl ?_)
 (refine AF rfl ?_; refine AW rfl (bs.keep k5 (by simp)) (spcR.len hs) ?_)
 (refine AF rfl ?_; refine AR (rsmallSpec_ok w5 _ s 200 (by omega) (spcR.ext hs k5)) rfl ?_)
 rintro _ w6 ⟨rfl, k6⟩
 have k46 := k5.trans k6
 cases hs2 : smS s 200 with
 | false =>
  refine AF rfl (A4 rfl (AQ rfl (AC rfl (AC rfl (AK rfl (AK rfl (AK rfl (AK rfl (AN rfl (AC rfl ?_))))))))))
  repeat' first | refine nx rfl ?_ | fail
  refine AA (AC rfl (AB (AC rfl ?_)))
  repeat' first | refine nx rfl ?_ | fail
  exact AL rfl ⟨rfl, k04.trans k46⟩
 | true =>
 refine AF rfl (A4 rfl (AQ rfl (AC rfl (AC rfl (AF rfl (AD rfl ?_))))))
 have be6 := be.keep k46 (by simp)
 (refine AF rfl ?_; refine AU (L := er) rfl hl8 (Cy (l := [.int .i64 e.kind]) be6.cells rfl) ?_)
 (refine AF rfl ?_; refine AR (rsmallReq_ok w6 _ e.req 200 (by omega) (reqR.ext her k46)) rfl ?_)
 rintro _ w7 ⟨rfl, k7⟩
 have k47 := k46.trans k7
 cases hr2 : smR e.req 200 with
 | false =>
  refine AF rfl (A4 rfl (AQ rfl (AC rfl ?_)))
  repeat' first | refine nx rfl ?_ | fail
  refine AA (AC rfl (AB (AC rfl ?_)))
  repeat' first | refine nx rfl ?_ | fail
  exact AL rfl ⟨rfl, k04.trans k47⟩
 | true =>
 refine AF rfl (A4 rfl (AQ rfl (AC rfl ?_)))
 repeat' first | refine nx rfl ?_ | refine nf rfl ?_
 have hsz := smS_sz hs2
 have hez : szF e.req.formula ≤ 200 := by
  simp only [smR, Bool.and_eq_true, decide_eq_true_eq] at hr2
  exact hr2.2
 have k07 := k04.trans k47
 replace bf := bf.keep k47 (by simp)
 replace bs := bs.keep k47 (by simp)
 replace be := be.keep k47 (by simp)
 replace hf := hf.ext k47
 replace hs := spcR.ext hs k47
 replace he := edtR.ext he k47
 clear be6 k46 k04 k47 her
 refine BA (.read 0 (.read 1 (.read 2 (.read 4 (.alt 3 (.alt 5 (.read 6 (.read 7 (.read 8 (.read 9 (.read 11 (.alt 10 (.alt 12 (.read 13 (.read 14 (.read 15 (.read 16 (.read 18 (.alt 17 (.alt 19 (.read 20 (.read 21 (.read 22 .done))) .stop) .stop)))))) .stop) .stop)))))) .stop) .stop))))) A6 (by kernel_rfl) (fun wd kd ed => ⟨Ext wd, ?_, ?_⟩)
 ·exact Ext.refl _
 have ca : ∀ W, Ext wd W → Cells W w.heap.size 0 cf := fun W e => ((bf.keep kd (by simp)).keep e (by simp)).cells
 have cb : ∀ W, Ext wd W → Cells W w1.heap.size 0 cs := fun W e => ((bs.keep kd (by simp)).keep e (by simp)).cells
 have cc : ∀ W, Ext wd W → Cells W w2.heap.size 0 (.int .i64 e.kind :: er) := fun W e => ((be.keep kd (by simp)).keep e (by simp)).cells
 have hcs := spcR.len hs
 have hce : (Value.int .i64 e.kind :: er).length = 9 := by simp [hl8]
 obtain ⟨f0, f1, f2, f3, f4, rfl⟩ := CD hcf
 obtain ⟨s0, s1, rfl⟩ := cells2 hcs
 obtain ⟨e0, e1, e2, e3, e4, e5, e6, e7, rfl⟩ := cells8' hl8
 replace hf := hf.ext kd
 replace hs := spcR.ext hs kd
 replace he := edtR.ext he kd
 have kwd := k07.trans kd
 ((apply D_R rfl rfl; (intro W hW; refine AC rfl ?_; exact AE ⟨rfl, rfl, rfl⟩)) <;> (apply D_R rfl rfl; (intro W hW; refine AC rfl ?_; exact AE ⟨rfl, rfl, rfl⟩)) <;> (apply D_R rfl rfl; (intro W hW; (refine AF rfl ?_; refine AU rfl (by rfl) (ca W hW) ?_); exact AE ⟨rfl, rfl, rfl⟩)) <;> (apply D_R rfl rfl; (intro W hW; (refine AF rfl ?_; refine AU rfl (by rfl) (ca W hW) ?_); exact AE ⟨rfl, rfl, rfl⟩)))
 refine D_E rfl ?_
 (refine AF rfl ?_; refine AR (prtF_ok wd _ f hf (hG.ext kwd) (by omega)) rfl ?_)
 rintro _ x1 ⟨rfl, j1⟩
 refine AE ⟨Ext wd, fun _ e => e, j1, ?_⟩
 refine D_E rfl ?_
 (refine AF rfl ?_; refine AR (rformula_ok x1 _ f (hf.ext j1) (by omega)) rfl ?_)
 rintro _ x2 ⟨rfl, j2⟩
 have j12 := j1.trans j2
 refine AE ⟨Ext wd, fun _ e => e, j12, ?_⟩
 ((refine D_seql rfl rfl rfl rfl (fun hc => ?_) (fun hc => ?_)) <;> (apply D_R rfl rfl; (intro W hW; (refine AN rfl ?_; refine AC rfl ?_); exact AE ⟨rfl, rfl, rfl⟩)) <;> (apply D_R rfl rfl; (intro W hW; refine AC rfl ?_; exact AE ⟨rfl, rfl, rfl⟩)) <;> (first | refine Ab rfl rfl rfl rfl ?_ | (apply D_R rfl rfl; (intro W hW; (refine AF rfl ?_; refine AU rfl (by rfl) (cb W hW) ?_); exact AE ⟨rfl, rfl, rfl⟩))) <;> (first | refine Ab rfl rfl rfl rfl ?_ | (apply D_R rfl rfl; (intro W hW; (refine AF rfl ?_; refine AU rfl (by rfl) (cb W hW) ?_); exact AE ⟨rfl, rfl, rfl⟩))))
 rotate_left
 ·exact absurd rfl (by assumption)
 refine D_E rfl ?_
 (refine AF rfl ?_; refine AR (prtS_ok x2 _ s (spcR.ext hs j12) (hG.ext (kwd.trans j12)) (by omega)) rfl ?_)
 rintro _ x3 ⟨rfl, j3⟩
 have j13 := j12.trans j3
 refine AE ⟨Ext wd, fun _ e => e, j13, ?_⟩
 refine D_E rfl ?_
 (refine AF rfl ?_; refine AR (rspec_ok x3 _ s (spcR.ext hs j13) (by omega)) rfl ?_)
 rintro _ x4 ⟨rfl, j4⟩
 have j14 := j13.trans j4
 refine AE ⟨Ext wd, fun _ e => e, j14, ?_⟩
 ((refine D_seql rfl rfl rfl rfl (fun hc => ?_) (fun hc => ?_)) <;> (apply D_R rfl rfl; (intro W hW; (refine AN rfl ?_; refine AC rfl ?_); exact AE ⟨rfl, rfl, rfl⟩)) <;> (apply D_R rfl rfl; (intro W hW; refine AC rfl ?_; exact AE ⟨rfl, rfl, rfl⟩)) <;> (first | refine Ab rfl rfl rfl rfl ?_ | (apply D_R rfl rfl; (intro W hW; (refine AF rfl ?_; refine AU rfl (by rfl) (cc W hW) ?_); exact AE ⟨rfl, rfl, rfl⟩))) <;> (first | refine Ab rfl rfl rfl rfl ?_ | (apply D_R rfl rfl; (intro W hW; (refine AF rfl ?_; refine AU rfl (by rfl) (cc W hW) ?_); exact AE ⟨rfl, rfl, rfl⟩))))
 rotate_left
 ·exact absurd rfl (by assumption)
 refine D_E rfl ?_
 (refine AF rfl ?_; refine AR (prtD_ok x4 _ e (edtR.ext he j14) (hG.ext (kwd.trans j14)) (by omega)) rfl ?_)
 rintro _ x5 ⟨rfl, j5⟩
 have j15 := j14.trans j5
 refine AE ⟨Ext wd, fun _ e => e, j15, ?_⟩
 refine D_E rfl ?_
 (refine AF rfl ?_; refine AR (redit_ok x5 _ e (edtR.ext he j15) (by omega)) rfl ?_)
 rintro _ x6 ⟨rfl, j6⟩
 have j16 := j15.trans j6
 refine AE ⟨Ext wd, fun _ e => e, j16, ?_⟩
 ((refine D_seql rfl rfl rfl rfl (fun hc => ?_) (fun hc => ?_)) <;> (apply D_R rfl rfl; (intro W hW; (refine AN rfl ?_; refine AC rfl ?_); exact AE ⟨rfl, rfl, rfl⟩)) <;> (apply D_R rfl rfl; (intro W hW; (refine AB ?_; refine AC rfl ?_); exact AE ⟨rfl, rfl, rfl⟩)) <;> refine A0 ?_)
 rotate_left
 ·exact absurd rfl (by assumption)
 repeat' first | refine nx rfl ?_ | fail
 exact AL rfl ⟨rfl, kwd.trans j16⟩
end Go.Proofs.YtfcgdbmoncnibaaGreatDoor
namespace Go.Proofs.YtfcgdbmoncnibaaGreatDoor
open Go.ChangeShapes Go.WideShapes Go.ChangeAt Go.RowKit
open Go.ChangeMaps (open_string)
section
variable {H : Type} {enc : TypeId × Value → H} {P : Program} {W W' : World}
theorem sameAt_ext (he : Ext W W') {p : MemPlace} (hp : p.block < W.heap.size) : W.sameAt W' p := by
 cases p with
 | cell b off => exact World.cell?_of_block (w := W) (a := ⟨b, off, none⟩) (he.block b hp (by simp))
 | map b => exact he.block b hp (by simp)
theorem trodAll_ext (K : Kids P (· < P.types.size)) (hz : ∀ t e, t < P.types.size → P.underlying t = some (.slice e) → 0 < P.cellsOf e) (he : Ext W W') {sp : Nat → Bool} :
  ∀ {ts : List TypeId} {vs : List Value} {ds : List (DataW H)} {ps : List MemPlace}, (∀ t ∈ ts, t < P.types.size) → DataW.TrodAll enc P W 0 (fun _ => true) true ts vs ds ps →
   (∀ p ∈ ps, p.block < W.heap.size) → (∀ p ∈ ps, sp p.block = true) → DataW.TrodAll enc P W' 0 sp true ts vs ds ps
 | [], [], [], _, _, h, _, _ => h
 | _ :: _, _ :: _, _ :: _, _, hT, ⟨p, q, ⟨n, h1⟩, h2, e⟩, hl, hs => by
  subst e
  refine ⟨p, q, ⟨n, DataW.trod_stays K (fun ht hu => hz _ _ ht hu) (fun h => by cases h) (hT _ (by simp)) h1 (fun x hx => sameAt_ext he (hl x (List.mem_append_left _ hx))) fun x hx => hs x (List.mem_append_left _ hx)⟩, ?_, rfl⟩
  exact trodAll_ext K hz he (fun t ht => hT t (List.mem_cons_of_mem _ ht)) h2 (fun x hx => hl x (List.mem_append_right _ hx)) fun x hx => hs x (List.mem_append_right _ hx)
theorem keptBut_ext (he : Ext W W') (may : MemPlace → Prop) : W.keptBut W' may := by
 refine ⟨he.os, he.output, fun i hi => ?_⟩
 rw [he.block i hi (by simp)]
 exact (World.keptBut_refl W may).2.2 i hi
theorem post_of_ext (K : Kids P (· < P.types.size)) (hz : ∀ t e, t < P.types.size → P.underlying t = some (.slice e) → 0 < P.cellsOf e) {f : Func} {s : ChangeSpec} {apart fresh handsOn : Bool} {args : Array Value} {v : Value} {ds gs : List (DataW H)} {before : List MemPlace} {tb : TypeId}
  (hts : ∀ t ∈ f.params.toList, t < P.types.size) (hs : s.vars = []) (hW : DataW.Whole enc P f.params.toList s.vars apart W args.toList ds gs before)
  (hfn : s.fn H (ds ++ gs) = { results := [.lit (.bool true)], args := ds }) (hrt : f.resultTypes = #[tb]) (htb : P.underlying tb = some .bool) (hv : v = .bool true) (he : Ext W W') :
  s.post enc P f apart fresh handsOn false W args v W' := by
 subst hv
 have hlt : ∀ p ∈ before, p.block < W.heap.size := hW.lt
 obtain ⟨p, q, hA, hV, rfl, hf, hn⟩ := id hW
 have hq : gs = [] ∧ q = [] := by
  rw [hs] at hV
  cases gs with
  | nil => exact ⟨rfl, hV⟩
  | cons _ _ => exact hV.elim
 obtain ⟨rfl, rfl⟩ := hq
 refine ⟨ds, [], _, [], p, [], hW, ?_, ?_, ?_, keptBut_ext he _, (fun h => by cases h)⟩
 ·rw [hfn, hrt]
  exact trodAll_cons_mk (shut_bool htb true) trodAll_mk0
 ·rw [hfn]
  exact trodAll_ext K hz he hts hA (fun x hx => hlt x (List.mem_append_left _ hx)) fun x hx => by simpa using hlt x (List.mem_append_left _ hx)
 ·rw [hfn, hs]; exact rfl
end
theorem kids : Kids Tryz.prog (· < Tryz.prog.types.size) := kids_rows (by kernel_rfl) (by kernel_rfl)
theorem full : ∀ t e, t < Tryz.prog.types.size → Tryz.prog.underlying t = some (.slice e) → 0 < Tryz.prog.cellsOf e := slices_full_of Tryz.prog (by kernel_rfl)
theorem own : ownKnob Tryz.prog.godebug = none := by kernel_rfl
section
variable {H : Type} {enc : TypeId × Value → H} {P : Program} {W : World} {sp : Nat → Bool} {hd : Bool}
theorem spot_none {a : Addr} {v : Value} (h : W.cell? a = some v) : a.spot = none := by
 cases ha : a.spot with
 | none => rfl
 | some _ =>
  unfold World.cell? at h
  split at h
  ·simp [ha] at h
  ·cases h
end
end Go.Proofs.YtfcgdbmoncnibaaGreatDoor
namespace Go.Proofs.YtfcgdbmoncnibaaGreatDoor
open Go.ChangeShapes Go.WideShapes Go.ChangeAt Go.RowKit
set_option linter.unusedVariables false
theorem lenF {cs : List Value} (h : cs.length = 5) : ∃ c0 c1 c2 c3 c4, cs = [c0, c1, c2, c3, c4] := by
 match cs, h with
 | [a, b, c, d, e], _ => exact ⟨a, b, c, d, e, rfl⟩
theorem lenR {cs : List Value} (h : cs.length = 8) : ∃ c0 c1 c2 d, cs = c0 :: c1 :: c2 :: d ∧ d.length = 5 := by
 match cs, h with
 | a :: b :: c :: d, h => exact ⟨a, b, c, d, rfl, by simpa using h⟩
theorem lenG {cs : List Value} (h : cs.length = 3) : ∃ c0 c1 c2, cs = [c0, c1, c2] := by
 match cs, h with
 | [a, b, c], _ => exact ⟨a, b, c, rfl⟩
theorem lenS {cs : List Value} (h : cs.length = 2) : ∃ c0 c1, cs = [c0, c1] := by
 match cs, h with
 | [a, b], _ => exact ⟨a, b, rfl⟩
theorem lenE {cs : List Value} (h : cs.length = 9) : ∃ c0 d, cs = c0 :: d ∧ d.length = 8 := by
 match cs, h with
 | a :: d, h => exact ⟨a, d, rfl, by simpa using h⟩
theorem cell_eq {w : World} {b i j : Nat} (h : i = j) : w.cell? ⟨b, i, none⟩ = w.cell? ⟨b, j, none⟩ := by rw [h]
section
variable {H : Type} {enc : TypeId × Value → H} {W : World} {sp : Nat → Bool} {hd : Bool}
theorem open_rows {α : Type} [Inhabited α] {t e : TypeId} {c fuel : Nat} {cs : List Value} {x : DataW H × List MemPlace} (Q : List Value → α → Prop) (ht : Tryz.prog.underlying t = some (.slice e)) (hc : Tryz.prog.cellsOf e = c) (h0 : 0 < c)
  (hQ : ∀ (n : Nat) (cs : List Value) (x : DataW H × List MemPlace), n < fuel → DataW.trod enc Tryz.prog W 0 sp hd n e cs = some x → ∃ a, Q cs a) (h : DataW.trod enc Tryz.prog W 0 sp hd fuel t cs = some x) :
  ∃ (a : Option Addr) (k : Nat) (L : List (List Value)) (l : List α), cs = [.slice a l.length k] ∧ Sl Aw W (.slice a l.length k) l.length L.flatten ∧ L.length = l.length ∧ (∀ d ∈ L, d.length = c) ∧ ∀ (i : Nat) (d : List Value) (a : α), L[i]? = some d → l[i]? = some a → Q d a := by
 rcases DataW.trod_slice ht h with ⟨rfl, _⟩ | ⟨a, len, cap, elems, rest, n, rfl, rfl, _, _, hl, hm, hlen, hel, _, _⟩
 ·exact ⟨none, 0, [], [], rfl, ⟨none, 0, rfl, Nat.le_refl _, by omega, fun _ => rfl, .inl rfl⟩, rfl, (fun d hd => by cases hd), fun i d a h => by simp at h⟩
 ·rw [hc] at hel
  obtain ⟨D, hD⟩ := Deep.choose_lt (α := List Value × α) (n := len) (p := fun i q => W.cells? 0 (a.add (i * c)) c = some q.1 ∧ Q q.1 q.2) (fun i hi => by
   have h1 := hel i hi
   rw [List.getElem?_eq_getElem (by omega)] at h1
   obtain ⟨cs', h2, h3⟩ := Option.bind_eq_some_iff.1 h1
   obtain ⟨b, hb⟩ := hQ n cs' _ (Nat.lt_succ_self n) h3
   exact ⟨(cs', b), h2, hb⟩)
  have hlen' : ∀ i, i < len → (D i).1.length = c := fun i hi => (World.cells?_some (hD i hi).1).2.1
  have hrow : ∀ d ∈ ((List.range len).map fun i => (D i).1), d.length = c := by
   intro d hd
   obtain ⟨i, hi, rfl⟩ := List.mem_map.1 hd
   exact hlen' i (List.mem_range.1 hi)
  have hll : ((List.range len).map fun i => (D i).2).length = len := by simp
  refine ⟨some a, cap, (List.range len).map fun i => (D i).1, (List.range len).map fun i => (D i).2, by rw [hll], ⟨some a, cap, rfl, by omega, by simp only [maxLen] at hm; omega, (fun h => by cases h), ?_⟩, by simp, hrow, ?_⟩
  ·by_cases hz : len = 0
   ·left; omega
   ·right
    have hc0 := (World.cells?_some (hD 0 (by omega)).1).2.2 0 h0
    have hs : a.spot = none := by
     have hd0 := hlen' 0 (by omega)
     rw [List.getElem?_eq_getElem (by omega)] at hc0
     have := spot_none hc0
     simpa [Addr.add] using this
    obtain ⟨b, off, s⟩ := a
    simp only at hs
    subst hs
    refine ⟨b, off, rfl, trivial, fun i u hu => ?_⟩
    have hlt := (List.getElem?_eq_some_iff.1 hu).1
    rw [flat_len c _ hrow] at hlt
    simp only [List.length_map, List.length_range] at hlt
    have hk : i / c < len := (Nat.div_lt_iff_lt_mul h0).2 hlt
    have hj : i % c < c := Nat.mod_lt _ h0
    have hrk : ((List.range len).map fun i => (D i).1)[i / c]? = some (D (i / c)).1 := by
     rw [List.getElem?_map, List.getElem?_range hk]; rfl
    have hdk := hlen' _ hk
    have hv : (D (i / c)).1[i % c]? = some (D (i / c)).1[i % c] := List.getElem?_eq_getElem (by omega)
    have h1 := C2 c _ _ _ _ _ hrow hrk hv
    have hi : i / c * c + i % c = i := by rw [Nat.mul_comm]; exact Nat.div_add_mod i c
    rw [hi] at h1
    have h2 := (World.cells?_some (hD _ hk).1).2.2 (i % c) hj
    rw [Addr.add_lit, Addr.add_lit, hv] at h2
    have e : u = (D (i / c)).1[i % c] := Option.some.inj (hu.symm.trans h1)
    rw [e, ← h2]
    exact cell_eq (by omega)
  ·intro i d b hd hb
   obtain ⟨h1, rfl⟩ := List.getElem?_eq_some_iff.1 hd
   obtain ⟨_, rfl⟩ := List.getElem?_eq_some_iff.1 hb
   simp at h1
   simp only [List.getElem_map, List.getElem_range]
   exact (hD i (by omega)).2
theorem cellF : Tryz.prog.cellsOf 24 = 5 := by kernel_rfl
theorem cellR : Tryz.prog.cellsOf 30 = 8 := by kernel_rfl
theorem cellS : Tryz.prog.cellsOf 28 = 2 := by kernel_rfl
theorem cellE : Tryz.prog.cellsOf 32 = 9 := by kernel_rfl
theorem cellSg : Tryz.prog.cellsOf 72 = 3 := by kernel_rfl
theorem cellI : Tryz.prog.cellsOf 3 = 1 := by kernel_rfl
theorem cellB : Tryz.prog.cellsOf 4 = 1 := by kernel_rfl
theorem cellSt : Tryz.prog.cellsOf 9 = 1 := by kernel_rfl
theorem cellFs : Tryz.prog.cellsOf 22 = 1 := by kernel_rfl
theorem cellSgs : Tryz.prog.cellsOf 25 = 1 := by kernel_rfl
theorem cellRs : Tryz.prog.cellsOf 26 = 1 := by kernel_rfl
theorem strV_toList (s : ByteArray) : Value.string s = AM s.data.toList := by simp [AM]
theorem BQ {β : Type} {xs : List β} {n i : Nat} (h : xs.length = n) (hi : i < n) : ∃ y, xs[i]? = some y := ⟨_, List.getElem?_eq_getElem (by omega)⟩
theorem open_fml : ∀ (fuel : Nat) (cs : List Value) (x : DataW H × List MemPlace), DataW.trod enc Tryz.prog W 0 sp hd fuel 24 cs = some x → ∃ f : Fml, fmlR.fits Aw W cs f := by
 intro fuel
 induction fuel using Nat.strongRecOn with
 | ind fuel ih =>
 intro cs x h
 obtain ⟨xs, n, rfl, _, hl, hxl, hf⟩ := DataW.trod_struct Tryz.underlying24 h
 rw [cellF] at hl
 obtain ⟨c0, c1, c2, c3, c4, rfl⟩ := lenF hl
 have hx5 : xs.length = 5 := hxl
 have f0 : DataW.trod enc Tryz.prog W 0 sp hd n 3 ((List.drop 0 [c0, c1, c2, c3, c4]).take (Tryz.prog.cellsOf 3)) = xs[0]? := hf 0 _ rfl
 have f1 : DataW.trod enc Tryz.prog W 0 sp hd n 9 ((List.drop 1 [c0, c1, c2, c3, c4]).take (Tryz.prog.cellsOf 9)) = xs[1]? := hf 1 _ rfl
 have f2 : DataW.trod enc Tryz.prog W 0 sp hd n 3 ((List.drop 2 [c0, c1, c2, c3, c4]).take (Tryz.prog.cellsOf 3)) = xs[2]? := hf 2 _ rfl
 have f3 : DataW.trod enc Tryz.prog W 0 sp hd n 3 ((List.drop 3 [c0, c1, c2, c3, c4]).take (Tryz.prog.cellsOf 3)) = xs[3]? := hf 3 _ rfl
 have f4 : DataW.trod enc Tryz.prog W 0 sp hd n 22 ((List.drop 4 [c0, c1, c2, c3, c4]).take (Tryz.prog.cellsOf 22)) = xs[4]? := hf 4 _ rfl
 rw [cellI] at f0 f2 f3
 rw [cellSt] at f1
 rw [cellFs] at f4
 obtain ⟨y0, g0⟩ := BQ (i := 0) hx5 (by omega)
 obtain ⟨y1, g1⟩ := BQ (i := 1) hx5 (by omega)
 obtain ⟨y2, g2⟩ := BQ (i := 2) hx5 (by omega)
 obtain ⟨y3, g3⟩ := BQ (i := 3) hx5 (by omega)
 obtain ⟨y4, g4⟩ := BQ (i := 4) hx5 (by omega)
 obtain ⟨op, e0, _, _⟩ := DataW.trod_int Tryz.underlying3 (f0.trans g0)
 obtain ⟨s, e1, _, _⟩ := DataW.trod_string Tryz.underlying9 (f1.trans g1)
 obtain ⟨v, e2, _, _⟩ := DataW.trod_int Tryz.underlying3 (f2.trans g2)
 obtain ⟨b, e3, _, _⟩ := DataW.trod_int Tryz.underlying3 (f3.trans g3)
 have : Inhabited Fml := ⟨zeroF⟩
 obtain ⟨a, k, L, l, e4, hS, hL, h5, hA⟩ := open_rows (fun d g => fmlR.fits Aw W d g) Tryz.underlying22 cellF (by omega) (fun m cs x hm hx => ih m (by omega) cs x hx) (f4.trans g4)
 have e0' : c0 = .int .i64 op := by simpa using e0
 have e1' : c1 = AM s.data.toList := by rw [← strV_toList]; simpa using e1
 have e2' : c2 = .int .i64 v := by simpa using e2
 have e3' : c3 = .int .i64 b := by simpa using e3
 have e4' : c4 = .slice a l.length k := by simpa using e4
 subst e0' e1' e2' e3' e4'
 exact ⟨⟨op, s.data.toList, v, b, l⟩, rfl, .mk op _ v b l _ L hS hL h5 fun i c g hc hg => (hA i c g hc hg).2⟩
theorem open_req {fuel : Nat} {cs : List Value} {x : DataW H × List MemPlace} (h : DataW.trod enc Tryz.prog W 0 sp hd fuel 30 cs = some x) : ∃ r : Rqm, reqR.fits Aw W cs r := by
 obtain ⟨xs, n, rfl, _, hl, hxl, hf⟩ := DataW.trod_struct Tryz.underlying30 h
 rw [cellR] at hl
 obtain ⟨c0, c1, c2, d, rfl, hd5⟩ := lenR hl
 have hx4 : xs.length = 4 := hxl
 have f0 : DataW.trod enc Tryz.prog W 0 sp hd n 9 ((List.drop 0 (c0 :: c1 :: c2 :: d)).take (Tryz.prog.cellsOf 9)) = xs[0]? := hf 0 _ rfl
 have f1 : DataW.trod enc Tryz.prog W 0 sp hd n 9 ((List.drop 1 (c0 :: c1 :: c2 :: d)).take (Tryz.prog.cellsOf 9)) = xs[1]? := hf 1 _ rfl
 have f2 : DataW.trod enc Tryz.prog W 0 sp hd n 3 ((List.drop 2 (c0 :: c1 :: c2 :: d)).take (Tryz.prog.cellsOf 3)) = xs[2]? := hf 2 _ rfl
 have f3 : DataW.trod enc Tryz.prog W 0 sp hd n 24 ((List.drop 3 (c0 :: c1 :: c2 :: d)).take (Tryz.prog.cellsOf 24)) = xs[3]? := hf 3 _ rfl
 rw [cellI] at f2
 rw [cellSt] at f0 f1
 rw [cellF] at f3
 obtain ⟨y0, g0⟩ := BQ (i := 0) hx4 (by omega)
 obtain ⟨y1, g1⟩ := BQ (i := 1) hx4 (by omega)
 obtain ⟨y2, g2⟩ := BQ (i := 2) hx4 (by omega)
 obtain ⟨y3, g3⟩ := BQ (i := 3) hx4 (by omega)
 obtain ⟨s, e0, _, _⟩ := DataW.trod_string Tryz.underlying9 (f0.trans g0)
 obtain ⟨t, e1, _, _⟩ := DataW.trod_string Tryz.underlying9 (f1.trans g1)
 obtain ⟨k, e2, _, _⟩ := DataW.trod_int Tryz.underlying3 (f2.trans g2)
 obtain ⟨f, hF⟩ := open_fml _ _ _ (f3.trans g3)
 have e0' : c0 = AM s.data.toList := by rw [← strV_toList]; simpa using e0
 have e1' : c1 = AM t.data.toList := by rw [← strV_toList]; simpa using e1
 have e2' : c2 = .int .i64 k := by simpa using e2
 have e3 : (List.drop 3 (c0 :: c1 :: c2 :: d)).take 5 = d := by simp [← hd5]
 rw [e3] at hF
 subst e0' e1' e2'
 exact ⟨⟨s.data.toList, t.data.toList, k, f⟩, d, rfl, hd5, hF.2⟩
theorem open_sgn {fuel : Nat} {cs : List Value} {x : DataW H × List MemPlace} (h : DataW.trod enc Tryz.prog W 0 sp hd fuel 72 cs = some x) : ∃ r : Sgn, sgnR.fits Aw W cs r := by
 obtain ⟨xs, n, rfl, _, hl, hxl, hf⟩ := DataW.trod_struct Tryz.underlying72 h
 rw [cellSg] at hl
 obtain ⟨c0, c1, c2, rfl⟩ := lenG hl
 have hx3 : xs.length = 3 := hxl
 have f0 : DataW.trod enc Tryz.prog W 0 sp hd n 9 ((List.drop 0 [c0, c1, c2]).take (Tryz.prog.cellsOf 9)) = xs[0]? := hf 0 _ rfl
 have f1 : DataW.trod enc Tryz.prog W 0 sp hd n 4 ((List.drop 1 [c0, c1, c2]).take (Tryz.prog.cellsOf 4)) = xs[1]? := hf 1 _ rfl
 have f2 : DataW.trod enc Tryz.prog W 0 sp hd n 3 ((List.drop 2 [c0, c1, c2]).take (Tryz.prog.cellsOf 3)) = xs[2]? := hf 2 _ rfl
 rw [cellI] at f2
 rw [cellSt] at f0
 rw [cellB] at f1
 obtain ⟨y0, g0⟩ := BQ (i := 0) hx3 (by omega)
 obtain ⟨y1, g1⟩ := BQ (i := 1) hx3 (by omega)
 obtain ⟨y2, g2⟩ := BQ (i := 2) hx3 (by omega)
 obtain ⟨s, e0, _, _⟩ := DataW.trod_string Tryz.underlying9 (f0.trans g0)
 obtain ⟨t, e1, _, _⟩ := DataW.trod_bool Tryz.underlying4 (f1.trans g1)
 obtain ⟨k, e2, _, _⟩ := DataW.trod_int Tryz.underlying3 (f2.trans g2)
 have e0' : c0 = AM s.data.toList := by rw [← strV_toList]; simpa using e0
 have e1' : c1 = .bool t := by simpa using e1
 have e2' : c2 = .int .i64 k := by simpa using e2
 subst e0' e1' e2'
 exact ⟨⟨s.data.toList, t, k⟩, rfl⟩
theorem open_sgns {fuel : Nat} {cs : List Value} {x : DataW H × List MemPlace} (h : DataW.trod enc Tryz.prog W 0 sp hd fuel 25 cs = some x) : ∃ (v : Value) (l : List Sgn), cs = [v] ∧ SlAt sgnR Aw W v l := by
 have : Inhabited Sgn := ⟨⟨[], false, 0⟩⟩
 obtain ⟨a, k, L, l, e, hS, hL, _, hA⟩ := open_rows (fun d g => sgnR.fits Aw W d g) Tryz.underlying25 cellSg (by omega) (fun m cs x _ hx => open_sgn hx) h
 exact ⟨_, l, e, a, k, L, rfl, hS, hL, hA⟩
theorem open_reqs {fuel : Nat} {cs : List Value} {x : DataW H × List MemPlace} (h : DataW.trod enc Tryz.prog W 0 sp hd fuel 26 cs = some x) : ∃ (v : Value) (l : List Rqm), cs = [v] ∧ SlAt reqR Aw W v l := by
 have : Inhabited Rqm := ⟨⟨[], [], 0, zeroF⟩⟩
 obtain ⟨a, k, L, l, e, hS, hL, _, hA⟩ := open_rows (fun d g => reqR.fits Aw W d g) Tryz.underlying26 cellR (by omega) (fun m cs x _ hx => open_req hx) h
 exact ⟨_, l, e, a, k, L, rfl, hS, hL, hA⟩
theorem open_spc {fuel : Nat} {cs : List Value} {x : DataW H × List MemPlace} (h : DataW.trod enc Tryz.prog W 0 sp hd fuel 28 cs = some x) : ∃ s : Spc, spcR.fits Aw W cs s := by
 obtain ⟨xs, n, rfl, _, hl, hxl, hf⟩ := DataW.trod_struct Tryz.underlying28 h
 rw [cellS] at hl
 obtain ⟨c0, c1, rfl⟩ := lenS hl
 have hx2 : xs.length = 2 := hxl
 have f0 : DataW.trod enc Tryz.prog W 0 sp hd n 25 ((List.drop 0 [c0, c1]).take (Tryz.prog.cellsOf 25)) = xs[0]? := hf 0 _ rfl
 have f1 : DataW.trod enc Tryz.prog W 0 sp hd n 26 ((List.drop 1 [c0, c1]).take (Tryz.prog.cellsOf 26)) = xs[1]? := hf 1 _ rfl
 rw [cellSgs] at f0
 rw [cellRs] at f1
 obtain ⟨y0, g0⟩ := BQ (i := 0) hx2 (by omega)
 obtain ⟨y1, g1⟩ := BQ (i := 1) hx2 (by omega)
 obtain ⟨v0, l0, e0, h0⟩ := open_sgns (f0.trans g0)
 obtain ⟨v1, l1, e1, h1⟩ := open_reqs (f1.trans g1)
 have e0' : c0 = v0 := by simpa using e0
 have e1' : c1 = v1 := by simpa using e1
 subst e0' e1'
 exact ⟨⟨l0, l1⟩, c0, c1, rfl, h0, h1⟩
theorem open_edt {fuel : Nat} {cs : List Value} {x : DataW H × List MemPlace} (h : DataW.trod enc Tryz.prog W 0 sp hd fuel 32 cs = some x) : ∃ e : Edt, edtR.fits Aw W cs e := by
 obtain ⟨xs, n, rfl, _, hl, hxl, hf⟩ := DataW.trod_struct Tryz.underlying32 h
 rw [cellE] at hl
 obtain ⟨c0, d, rfl, hd8⟩ := lenE hl
 have hx2 : xs.length = 2 := hxl
 have f0 : DataW.trod enc Tryz.prog W 0 sp hd n 3 ((List.drop 0 (c0 :: d)).take (Tryz.prog.cellsOf 3)) = xs[0]? := hf 0 _ rfl
 have f1 : DataW.trod enc Tryz.prog W 0 sp hd n 30 ((List.drop 1 (c0 :: d)).take (Tryz.prog.cellsOf 30)) = xs[1]? := hf 1 _ rfl
 rw [cellI] at f0
 rw [cellR] at f1
 obtain ⟨y0, g0⟩ := BQ (i := 0) hx2 (by omega)
 obtain ⟨y1, g1⟩ := BQ (i := 1) hx2 (by omega)
 obtain ⟨k, e0, _, _⟩ := DataW.trod_int Tryz.underlying3 (f0.trans g0)
 have e1 : (List.drop 1 (c0 :: d)).take 8 = d := by simp [← hd8]
 rw [e1] at f1
 obtain ⟨r, hr⟩ := open_req (f1.trans g1)
 have e0' : c0 = .int .i64 k := by simpa using e0
 subst e0'
 exact ⟨⟨k, r⟩, d, rfl, hr⟩
end
set_option maxRecDepth 100000 in
theorem val_struct {W : World} {r : Reach} {t : TypeId} {fs : Array Field} {v : Value} {b : Nat} (ht : Tryz.prog.underlying t = some (.struct fs)) (hval : Value.okWide Tryz.prog W r b t v) : v = .agg v.cells := by
 obtain ⟨cs, rfl, _⟩ := okWide_struct ht hval
 rfl
section
variable {H : Type} {enc : TypeId × Value → H} {W : World} {sp : Nat → Bool} {hd : Bool} {r : Reach} {b : Nat} {v : Value} {x : DataW H × List MemPlace}
set_option maxRecDepth 100000 in
theorem arg_fml (hval : Value.okWide Tryz.prog W r b 24 v) (h : ∃ n, DataW.trod enc Tryz.prog W 0 sp hd n 24 v.cells.toList = some x) : ∃ f : Fml, FAt Aw W v f := by
 obtain ⟨n, h⟩ := h
 obtain ⟨f, hf⟩ := open_fml _ _ _ h
 have e := val_struct Tryz.underlying24 hval
 refine ⟨f, ?_⟩
 rw [e]
 simpa using hf.2
set_option maxRecDepth 100000 in
theorem arg_spc (hval : Value.okWide Tryz.prog W r b 28 v) (h : ∃ n, DataW.trod enc Tryz.prog W 0 sp hd n 28 v.cells.toList = some x) : ∃ (c : List Value) (s : Spc), v = .agg c.toArray ∧ spcR.fits Aw W c s := by
 obtain ⟨n, h⟩ := h
 obtain ⟨s, hs⟩ := open_spc h
 exact ⟨_, s, by rw [Array.toArray_toList]; exact val_struct Tryz.underlying28 hval, hs⟩
set_option maxRecDepth 100000 in
theorem arg_edt (hval : Value.okWide Tryz.prog W r b 32 v) (h : ∃ n, DataW.trod enc Tryz.prog W 0 sp hd n 32 v.cells.toList = some x) : ∃ (c : List Value) (s : Edt), v = .agg c.toArray ∧ edtR.fits Aw W c s := by
 obtain ⟨n, h⟩ := h
 obtain ⟨s, hs⟩ := open_edt h
 exact ⟨_, s, by rw [Array.toArray_toList]; exact val_struct Tryz.underlying32 hval, hs⟩
end
end Go.Proofs.YtfcgdbmoncnibaaGreatDoor
