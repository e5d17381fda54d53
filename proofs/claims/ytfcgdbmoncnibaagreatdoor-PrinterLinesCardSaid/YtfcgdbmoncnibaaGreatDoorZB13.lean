/- The reference printer: specifications and edits held printable. The reference: sizes. The printer's plain law: what is parsed can be printed, and has been read from enough parentheses. The printer's plain law: specifications and edits. The printer's plain law: what the tokens of specifications and edits are parsed to. The printer's plain law: what is parsed is no greater than its tokens. The reference printer: the text of a specification. The reference printer: edits. The printer's laws, plain: texts are parsed back; equal texts; what is parsed can be printed. The printer's laws, plain: parentheses of a text. The printer's laws, plain: the lines of a specification. PrinterLines walked. A law's close: what the walk gives, as the row wants it; the common part. Formulas, requirements, specifications and edits that come in, opened. Conditions: none. -/
import Derived.Test.YtfcgdbmoncnibaaGreatDoorZB12
import Derived.WalkKit
import Derived.ProofKit
import Derived.OpenShut
import Derived.JoinedCond
import Derived.ChangeStays
import Derived.ReadAgain
import Derived.Deep.Slices

namespace Go.Proofs.YtfcgdbmoncnibaaGreatDoor
open Go.RowKit
set_option linter.unusedVariables false
structure SpA (w : World) (b : Nat) (s : Spc) (sa ra : Option Addr) (sc rc : Nat) (LS LR : List (List Value)) : Prop where
 c0 : w.cell? ⟨b, 0 + 0, none⟩ = some (.slice sa s.sigs.length sc)
 c1 : w.cell? ⟨b, 0 + 1, none⟩ = some (.slice ra s.reqs.length rc)
 ss : Sl A2 w (.slice sa s.sigs.length sc) s.sigs.length LS.flatten
 sr : RsAt sgnR A2 w LS s.sigs
 rs : Sl A2 w (.slice ra s.reqs.length rc) s.reqs.length LR.flatten
 rr : RsAt reqR A2 w LR s.reqs
theorem SpA.ext {w w' : World} {b : Nat} {s : Spc} {sa ra : Option Addr} {sc rc : Nat} {LS LR : List (List Value)} (h : SpA w b s sa ra sc rc LS LR) (k : Ext w w') : SpA w' b s sa ra sc rc LS LR :=
 ⟨k.cell h.c0 (by simp), k.cell h.c1 (by simp), h.ss.ext k, h.sr.ext k, h.rs.ext k, h.rr.ext k⟩
theorem spc_cells {w : World} {c : List Value} {s : Spc} (h : spcR.fits A2 w c s) : ∃ sa sc ra rc LS LR, c = [.slice sa s.sigs.length sc, .slice ra s.reqs.length rc] ∧ ∀ w1, New w w1 28 c → SpA w1 w.heap.size s sa ra sc rc LS LR := by
 obtain ⟨sv, rv, rfl, ⟨sa, sc, LS, rfl, h1, h2⟩, ⟨ra, rc, LR, rfl, h3, h4⟩⟩ := h
 exact ⟨sa, sc, ra, rc, LS, LR, rfl, fun w1 n => ⟨n.blk.cell rfl, n.blk.cell rfl, h1.ext n.keep, h2.ext n.keep, h3.ext n.keep, h4.ext n.keep⟩⟩
theorem SpA.sig {w : World} {b k : Nat} {s : Spc} {sa ra : Option Addr} {sc rc : Nat} {LS LR : List (List Value)} {x : Sgn} (h : SpA w b s sa ra sc rc LS LR) (hx : s.sigs[k]? = some x) : ∃ bs os, sa = some ⟨bs, os, none⟩ ∧ Cells w bs (os + k * 3) (CC x) := by
 have hlt := (List.getElem?_eq_some_iff.1 hx).1
 obtain ⟨d, hd⟩ : ∃ d, LS[k]? = some d := ⟨_, List.getElem?_eq_getElem (by rw [h.sr.1]; exact hlt)⟩
 obtain ⟨bs, os, e, _, hc⟩ := h.ss.row h.sr hd hlt
 have hdx : d = CC x := h.sr.2 k d x hd hx
 subst hdx
 exact ⟨bs, os, e, hc⟩
theorem SpA.req {w : World} {b k : Nat} {s : Spc} {sa ra : Option Addr} {sc rc : Nat} {LS LR : List (List Value)} {r : Rqm} (h : SpA w b s sa ra sc rc LS LR) (hx : s.reqs[k]? = some r) : ∃ bs os d, sa = sa ∧ ra = some ⟨bs, os, none⟩ ∧ d.length = 8 ∧ Cells w bs (os + k * 8) d ∧ reqR.fits A2 w d r := by
 have hlt := (List.getElem?_eq_some_iff.1 hx).1
 obtain ⟨d, hd⟩ : ∃ d, LR[k]? = some d := ⟨_, List.getElem?_eq_getElem (by rw [h.rr.1]; exact hlt)⟩
 obtain ⟨bs, os, e, _, hc⟩ := h.rs.row h.rr hd hlt
 have hf := h.rr.2 k d r hd hx
 exact ⟨bs, os, d, rfl, e, reqR.len hf, hc, hf⟩
theorem szR_mem {l : List Rqm} {k : Nat} {r : Rqm} (h : l[k]? = some r) : szF r.formula + 4 ≤ szR l := by
 have := szR_take h
 have := szR_le l (k + 1)
 omega
theorem all_false {α : Type} {p : α → Bool} {l : List α} {k : Nat} {x : α} (hx : l[k]? = some x) (h : p x = false) : l.all p = false := by
 rw [← Bool.not_eq_true, List.all_eq_true]
 intro h2
 have := h2 x (List.mem_of_getElem? hx)
 rw [h] at this; cases this
theorem all_take_succ {α : Type} {p : α → Bool} {l : List α} {k : Nat} {x : α} (hx : l[k]? = some x) (h : (l.take k).all p = true) (hp : p x = true) : (l.take (k + 1)).all p = true := by
 rw [List.take_add_one, hx, List.all_append, h]; simp [hp]
set_option maxHeartbeats 1600000 in
theorem rprintSpec_ok (w : World) (c : List Value) (s : Spc) (hs : spcR.fits A2 w c s) (hz : szS s ≤ 1000000) : Fn Tryz.prog 22 [.agg c.toArray] w fun u w' => u = .bool (Co s) ∧ Ext w w' := by
 obtain ⟨sa, sc, ra, rc, LS, LR, rfl, hN⟩ := spc_cells hs
 have hsl : s.sigs.length ≤ 1000000 := by unfold szS at hz; omega
 have hrz : szR s.reqs ≤ 1000000 := by unfold szS at hz; omega
 have hrl := szR_len s.reqs
 refine Ac Tryz.func22 rfl Tryz.ntmps22 (Nat.le_of_ble_eq_true rfl) (by kernel_rfl) ?_
 repeat' first | refine nx rfl ?_ | fail
 (refine AA ?_; refine BY (L := [.slice sa s.sigs.length sc, .slice ra s.reqs.length rc]) rfl (fun w1 n1 => ?_))
 have hV := hN w1 n1
 have k1 := n1.keep
 ((refine AC ?_; refine AB rfl ?_))
 repeat' first | refine nx rfl ?_ | fail
 refine AA (AC (AI rfl (AE ?_)))
 repeat' first | refine AE ?_ | refine Cu ?_ | refine Cx ?_
 refine B4 (α := Unit) (fun _ => [(1, pt w.heap.size)]) (fun _ W => s.sigs.all okS = true ∧ Ext w1 W) ?_ ?_
 ·repeat' first | refine nx rfl ?_ | fail
  refine BC (α := Nat) (fun k => [(1, pt w.heap.size), (3, .int .i64 (k : Int))]) (fun k W => k ≤ s.sigs.length ∧ (s.sigs.take k).all okS = true ∧ Ext w1 W) (fun k => s.sigs.length - k) 0 ⟨rfl, rfl, trivial⟩ ⟨by simp, by simp, Ext.refl _⟩ ?_
  rintro k w2 f2 ⟨hk, hok, k2⟩
  repeat' first | refine nx rfl ?_ | fail
  have hV2 := hV.ext k2
  have c0 := hV2.c0
  by_cases hlt : k < s.sigs.length
  ·(refine AA (AI rfl (AD rfl ?_)) <;> refine AG rfl (by assumption) ?_ <;> refine Aq rfl ?_ <;> (refine As rfl rfl (fun hc => ?_) (fun hc => ?_) <;> try omega))
   repeat' first | refine nx rfl ?_ | fail
   obtain ⟨x, hx⟩ : ∃ x, s.sigs[k]? = some x := ⟨_, List.getElem?_eq_getElem hlt⟩
   obtain ⟨bs, os, rfl, hcx⟩ := hV2.sig hx
   have x0 : w2.cell? ⟨bs, os + k * 3 + 0, none⟩ = some (AM x.name) := hcx 0 _ rfl
   have x2 : w2.cell? ⟨bs, os + k * 3 + 2, none⟩ = some (.int .i64 x.size) := hcx 2 _ rfl
   (refine AA (AD rfl ?_) <;> refine AG rfl (by assumption) ?_ <;> refine AI rfl ?_ <;> refine Bd rfl rfl rfl (by omega) ?_ <;> refine AD rfl ?_ <;> refine AG rfl (by assumption) ?_)
   refine AS (refName_ok x.name w2) rfl ?_
   rintro _ w3 ⟨rfl, k3⟩
   have y0 := k3.cell c0 (by simp)
   have y2 := k3.cell x2 (by simp)
   clear c0 x0 x2
   generalize hn : BN x.name = bn
   refine A7 rfl ?_
   cases bn with
   | false =>
    rw [Bool.not_false]
    refine AB rfl (AJ rfl (AJ rfl (AJ rfl (AJ rfl (AJ rfl (AJ rfl (AJ rfl (AJ rfl (AL rfl (AB rfl ?_))))))))))
    repeat' first | refine nx rfl ?_ | fail
    refine AA (AC (AB rfl ?_))
    repeat' first | refine nx rfl ?_ | fail
    exact AP rfl ⟨by simp only [Co]; rw [all_false hx (p := okS) (by simp [okS, hn])]; rfl, (k1.trans k2).trans k3⟩
   | true =>
    rw [Bool.not_true]
    (refine AB rfl (AF rfl (AD rfl (AF rfl ?_))) <;> refine AG rfl (by assumption) ?_ <;> refine AF rfl (AI rfl (AF rfl ?_)) <;> refine Bd rfl rfl rfl (by omega) ?_ <;> refine AF rfl (AD rfl (AF rfl ?_)) <;> refine AG rfl (by assumption) ?_)
    refine AF rfl ?_
    refine AS (rnumber_ok w3 x.size) rfl ?_
    rintro _ w4 ⟨rfl, rfl⟩
    generalize hb : numB x.size = bb
    (refine AF rfl ?_; refine A7 rfl ?_)
    cases bb with
    | false =>
     rw [Bool.not_false]
     ((refine AQ rfl ?_; refine AB rfl ?_))
     repeat' first | refine nx rfl ?_ | fail
     refine AA (AC (AB rfl ?_))
     repeat' first | refine nx rfl ?_ | fail
     exact AP rfl ⟨by simp only [Co]; rw [all_false hx (p := okS) (by simp [okS, hb])]; rfl, (k1.trans k2).trans k3⟩
    | true =>
     rw [Bool.not_true]
     ((refine AQ rfl ?_; refine AB rfl ?_))
     repeat' first | refine nx rfl ?_ | refine nf rfl ?_
     (refine AA (AI rfl ?_) <;> refine BB rfl rfl (by first | exact Ak (by omega) (by omega) | exact Ar (by omega) (by omega) | exact Aj (by omega) (by omega)) ?_ <;> refine AC (AI rfl ?_))
     repeat' first | refine nx rfl ?_ | fail
     refine ⟨k + 1, ⟨rfl, ⟨rfl, ?_, trivial⟩, ⟨hlt, all_take_succ hx hok (by simp [okS, hn, hb]), k2.trans k3⟩⟩, by omega⟩
     show Value.int .i64 ((k : Int) + 1) = _
     rw [Int.natCast_add]; rfl
  ·(refine AA (AI rfl (AD rfl ?_)) <;> refine AG rfl (by assumption) ?_ <;> refine Aq rfl ?_ <;> (refine As rfl rfl (fun hc => ?_) (fun hc => ?_) <;> try omega))
   repeat' first | refine nx rfl ?_ | refine nf rfl ?_
   rw [List.take_of_length_le (by omega)] at hok
   exact Ap () ⟨rfl, trivial⟩ ⟨hok, k2⟩
 rintro _ w2 f2 ⟨hsok, k2⟩
 repeat' first | refine nx rfl ?_ | fail
 refine AA (AC (AI rfl ?_))
 repeat' first | refine nx rfl ?_ | fail
 refine BC (α := Nat) (fun k => [(1, pt w.heap.size), (4, .int .i64 (k : Int))]) (fun k W => k ≤ s.reqs.length ∧ (s.reqs.take k).all okRq = true ∧ Ext w1 W) (fun k => s.reqs.length - k) 0 ⟨rfl, rfl, trivial⟩ ⟨by simp, by simp, k2⟩ ?_
 clear k2
 rintro k w2 f2 ⟨hk, hok, k2⟩
 repeat' first | refine nx rfl ?_ | fail
 have hV2 := hV.ext k2
 have c1 := hV2.c1
 by_cases hlt : k < s.reqs.length
 ·(refine AA (AI rfl (AD rfl ?_)) <;> refine AG rfl (by assumption) ?_ <;> refine Aq rfl ?_ <;> (refine As rfl rfl (fun hc => ?_) (fun hc => ?_) <;> try omega))
  repeat' first | refine nx rfl ?_ | fail
  obtain ⟨r, hr⟩ : ∃ r, s.reqs[k]? = some r := ⟨_, List.getElem?_eq_getElem hlt⟩
  obtain ⟨bs, os, d, _, rfl, hd8, hcd, hfr⟩ := hV2.req hr
  have hzr := szR_mem hr
  (refine AA (AD rfl ?_) <;> refine AG rfl (by assumption) ?_ <;> refine AI rfl ?_)
  refine Bd (k := k) rfl rfl rfl (by omega) ?_
  refine AV (L := d) rfl hd8 hcd ?_
  refine AS (rprintReq_ok w2 d r hfr (by omega)) rfl ?_
  rintro _ w3 ⟨rfl, k3⟩
  generalize hb : okRq r = bb
  refine A7 rfl ?_
  cases bb with
  | false =>
   rw [Bool.not_false]
   repeat' first | refine nx rfl ?_ | fail
   refine AA (AC (AB rfl ?_))
   repeat' first | refine nx rfl ?_ | fail
   exact AP rfl ⟨by simp only [Co]; rw [all_false hr (p := okRq) hb, Bool.and_false]; rfl, (k1.trans k2).trans k3⟩
  | true =>
   rw [Bool.not_true]
   repeat' first | refine nx rfl ?_ | refine nf rfl ?_
   (refine AA (AI rfl ?_) <;> refine BB rfl rfl (by first | exact Ak (by omega) (by omega) | exact Ar (by omega) (by omega) | exact Aj (by omega) (by omega)) ?_ <;> refine AC (AI rfl ?_))
   repeat' first | refine nx rfl ?_ | fail
   refine ⟨k + 1, ⟨rfl, ⟨rfl, ?_, trivial⟩, ⟨hlt, all_take_succ hr hok hb, k2.trans k3⟩⟩, by omega⟩
   show Value.int .i64 ((k : Int) + 1) = _
   rw [Int.natCast_add]; rfl
 ·(refine AA (AI rfl (AD rfl ?_)) <;> refine AG rfl (by assumption) ?_ <;> refine Aq rfl ?_ <;> (refine As rfl rfl (fun hc => ?_) (fun hc => ?_) <;> try omega))
  repeat' first | refine nx rfl ?_ | refine nf rfl ?_
  refine AA (AC (AB rfl ?_))
  repeat' first | refine nx rfl ?_ | fail
  rw [List.take_of_length_le (by omega)] at hok
  exact AP rfl ⟨by simp only [Co, hsok, hok]; rfl, k1.trans k2⟩
end Go.Proofs.YtfcgdbmoncnibaaGreatDoor
namespace Go.Proofs.YtfcgdbmoncnibaaGreatDoor
open Go.RowKit
set_option linter.unusedVariables false
theorem capped_ok : ∀ (N : Nat) (f : Fml), szF f ≤ N → ∀ (w : World) (v : Value) (l : Nat), l ≤ 1000000 → FAt A2 w v f → Fn Tryz.prog 41 [v, .int .i64 (l : Int)] w fun u w' => u = .int .i64 ((min (szF f) (l + 1) : Nat) : Int) ∧ Ext w w' := by
 intro N
 induction N with
 | zero => intro f hN; have := szF_pos f; omega
 | succ N ih =>
 intro f hN w v l hl hf
 obtain ⟨av, rfl, L, hS, hFA⟩ := hf.form
 obtain ⟨a, c, rfl, hS'⟩ := id hS
 have hcap : f.args.length ≤ 9223372036854775807 := by obtain ⟨h1, h2, _⟩ := hS'; omega
 have hsz := szF_eq f
 refine Ac Tryz.func41 rfl Tryz.ntmps41 (Nat.le_of_ble_eq_true rfl) (by kernel_rfl) ?_
 repeat' first | refine nx rfl ?_ | fail
 (refine AA ?_; refine BY (L := fcC f (.slice a f.args.length c)) rfl (fun w1 n1 => ?_))
 have b1 := n1.blk
 have k1 := n1.keep
 have c4 : w1.cell? ⟨w.heap.size, 0 + 4, none⟩ = some (.slice a f.args.length c) := b1.cell rfl
 ((refine AC ?_; refine AI rfl ?_))
 repeat' first | refine nx rfl ?_ | fail
 refine AA (AC (AI rfl ?_))
 repeat' first | refine nx rfl ?_ | fail
 refine AA (AC (AI rfl ?_))
 repeat' first | refine nx rfl ?_ | fail
 refine BC (α := Nat) (fun k => [(1, .int .i64 (l : Int)), (2, pt w.heap.size), (5, .int .i64 ((min (1 + szL (f.args.take k)) (l + 1) : Nat) : Int)), (6, .int .i64 (k : Int))]) (fun k W => k ≤ f.args.length ∧ Ext w1 W) (fun k => f.args.length - k) 0 ⟨rfl, rfl, congrArg (Value.int .i64) (by simp [szL]; try omega), rfl, trivial⟩ ⟨by simp, Ext.refl _⟩ ?_
 rintro k w2 f2 ⟨hk, k2⟩
 have e4 := k2.cell c4 (by simp)
 have kw := k1.trans k2
 have htl : szL (f.args.take k) ≤ szL f.args := by
  have : ∀ l m : List Fml, szL (l ++ m) = szL l + szL m := by
   intro l
   induction l with
   | nil => intro m; simp [szL]
   | cons a l ih2 => intro m; simp only [List.cons_append, szL, ih2 m]; omega
  have h2 := this (f.args.take k) (f.args.drop k)
  rw [List.take_append_drop] at h2
  omega
 repeat' first | refine nx rfl ?_ | fail
 generalize hn : min (1 + szL (f.args.take k)) (l + 1) = n
 by_cases hlt : k < f.args.length
 ·by_cases hnl : n ≤ l
  ·(refine AA (AI rfl (AD rfl ?_)) <;> refine AG rfl (by assumption) ?_ <;> refine Aq rfl ?_ <;> (refine As rfl rfl (fun hc => ?_) (fun hc => ?_) <;> try omega) <;> refine AB rfl (AF rfl (AI rfl (AF rfl (AI rfl ?_)))) <;> (refine AF rfl ?_; (refine Ba rfl rfl (fun hc => ?_) (fun hc => ?_) <;> try omega)) <;> refine AL rfl (AB rfl ?_))
   repeat' first | refine nx rfl ?_ | fail
   obtain ⟨x, hx⟩ : ∃ x, f.args[k]? = some x := ⟨_, List.getElem?_eq_getElem hlt⟩
   obtain ⟨cx, hcx⟩ : ∃ cx, L[k]? = some cx := ⟨_, List.getElem?_eq_getElem (by rw [hFA.1]; exact hlt)⟩
   obtain ⟨ba, oa, rfl, hba, hcellx⟩ := hS.fml hFA.2.1 hcx hlt
   have hxm := szL_mem (List.mem_of_getElem? hx)
   have hfx : FAt A2 w2 (.agg cx.toArray) x := (hFA.2.2 k cx x hcx hx).ext kw
   have hcx2 := hcellx.keep kw (by simp)
   have htk : szL (f.args.take (k + 1)) = szL (f.args.take k) + szF x := by
    rw [List.take_add_one, hx]
    have : ∀ l : List Fml, szL (l ++ [x]) = szL l + szF x := by
     intro l
     induction l with
     | nil => simp [szL]
     | cons a l ih2 => simp only [List.cons_append, szL, ih2]; omega
    exact this _
   (refine AA (AI rfl (AD rfl ?_)) <;> refine AG rfl (by assumption) ?_ <;> refine AI rfl ?_)
   refine Bd (k := k) rfl rfl rfl (by omega) ?_
   refine AV (L := cx) rfl (hFA.2.1 cx (List.mem_of_getElem? hcx)) hcx2 ?_
   (refine AI rfl (AI rfl ?_) <;> refine W_sub rfl rfl (by first | exact Ak (by omega) (by omega) | exact Ar (by omega) (by omega) | exact Aj (by omega) (by omega)) ?_)
   have esub : (l : Int) - (n : Int) = ((l - n : Nat) : Int) := by omega
   rw [esub]
   refine AS (ih x (by omega) w2 _ (l - n) (by omega) hfx) rfl ?_
   rintro _ w3 ⟨rfl, k3⟩
   have hmin : min (szF x) (l - n + 1) ≤ l + 1 := by omega
   (refine BB rfl rfl (by first | exact Ak (by omega) (by omega) | exact Ar (by omega) (by omega) | exact Aj (by omega) (by omega)) ?_ <;> refine AC (AI rfl ?_))
   repeat' first | refine nx rfl ?_ | fail
   (refine AA (AI rfl ?_) <;> refine BB rfl rfl (by first | exact Ak (by omega) (by omega) | exact Ar (by omega) (by omega) | exact Aj (by omega) (by omega)) ?_ <;> refine AC (AI rfl ?_))
   repeat' first | refine nx rfl ?_ | fail
   refine ⟨k + 1, ⟨rfl, ⟨rfl, rfl, ?_, ?_, trivial⟩, ⟨hlt, k2.trans k3⟩⟩, by omega⟩
   ·refine congrArg (Value.int .i64) ?_
    rw [htk]
    show (n : Int) + ((min (szF x) (l - n + 1) : Nat) : Int) = _
    omega
   ·show Value.int .i64 ((k : Int) + 1) = _
    rw [Int.natCast_add]; rfl
  ·(refine AA (AI rfl (AD rfl ?_)) <;> refine AG rfl (by assumption) ?_ <;> refine Aq rfl ?_ <;> (refine As rfl rfl (fun hc => ?_) (fun hc => ?_) <;> try omega) <;> refine AB rfl (AF rfl (AI rfl (AF rfl (AI rfl ?_)))) <;> (refine AF rfl ?_; (refine Ba rfl rfl (fun hc => ?_) (fun hc => ?_) <;> try omega)) <;> refine AL rfl (AB rfl ?_))
   repeat' first | refine nx rfl ?_ | refine nf rfl ?_
   refine AA (AI rfl (AC (AI rfl ?_)))
   repeat' first | refine nx rfl ?_ | fail
   refine AP rfl ⟨congrArg (Value.int .i64) ?_, kw⟩
   omega
 ·have e : k = f.args.length := by omega
  subst e
  rw [List.take_length] at hn
  (refine AA (AI rfl (AD rfl ?_)) <;> refine AG rfl (by assumption) ?_ <;> refine Aq rfl ?_ <;> (refine As rfl rfl (fun hc => ?_) (fun hc => ?_) <;> try omega) <;> refine AB rfl (AJ rfl (AJ rfl (AJ rfl (AQ rfl (AB rfl ?_))))))
  repeat' first | refine nx rfl ?_ | refine nf rfl ?_
  refine AA (AI rfl (AC (AI rfl ?_)))
  repeat' first | refine nx rfl ?_ | fail
  refine AP rfl ⟨congrArg (Value.int .i64) ?_, kw⟩
  omega
theorem rsmall_ok (w : World) (v : Value) (f : Fml) (l : Nat) (hl : l ≤ 1000000) (hf : FAt A2 w v f) : Fn Tryz.prog 11 [v, .int .i64 (l : Int)] w fun u w' => u = .bool (decide (szF f ≤ l)) ∧ Ext w w' := by
 obtain ⟨av, rfl, L, hS, hFA⟩ := hf.form
 refine Ac Tryz.func11 rfl Tryz.ntmps11 (Nat.le_of_ble_eq_true rfl) (by kernel_rfl) ?_
 repeat' first | refine nx rfl ?_ | fail
 (refine AA ?_; refine BY (L := fcC f av) rfl (fun w1 n1 => ?_))
 have b1 := n1.blk
 have k1 := n1.keep
 ((refine AC ?_; refine AB rfl ?_))
 repeat' first | refine nx rfl ?_ | fail
 (refine AA ?_; refine AY (L := fcC f av) rfl b1 rfl ?_)
 (refine AI rfl ?_)
 refine AS (capped_ok _ f (Nat.le_refl _) w1 _ l hl (hf.ext k1)) rfl ?_
 rintro _ w2 ⟨rfl, k2⟩
 by_cases h : szF f ≤ l
 ·(refine AI rfl ?_ <;> (refine Ba rfl rfl (fun hc => ?_) (fun hc => ?_) <;> try omega) <;> refine AC (AB rfl ?_))
  repeat' first | refine nx rfl ?_ | fail
  exact AP rfl ⟨congrArg Value.bool (by simp [h]), k1.trans k2⟩
 ·(refine AI rfl ?_ <;> (refine Ba rfl rfl (fun hc => ?_) (fun hc => ?_) <;> try omega) <;> refine AC (AB rfl ?_))
  repeat' first | refine nx rfl ?_ | fail
  exact AP rfl ⟨congrArg Value.bool (by simp [h]), k1.trans k2⟩
def smR (r : Rqm) (l : Nat) : Bool := decide (r.name.length ≤ 100) && decide (r.part.length ≤ 100) && decide (szF r.formula ≤ l)
theorem rsmallReq_ok (w : World) (d : List Value) (r : Rqm) (l : Nat) (hl : l ≤ 1000000) (hr : reqR.fits A2 w d r) : Fn Tryz.prog 13 [.agg d.toArray, .int .i64 (l : Int)] w fun u w' => u = .bool (smR r l) ∧ Ext w w' := by
 obtain ⟨d5, rfl, hd5, hfa⟩ := req_parts hr
 refine Ac Tryz.func13 rfl Tryz.ntmps13 (Nat.le_of_ble_eq_true rfl) (by kernel_rfl) ?_
 repeat' first | refine nx rfl ?_ | fail
 (refine AA ?_; refine BY (L := [AM r.part, AM r.name, .int .i64 r.kind] ++ d5) rfl (fun w1 n1 => ?_))
 have b1 := n1.blk
 have k1 := n1.keep
 have c0 : w1.cell? ⟨w.heap.size, 0 + 0, none⟩ = some (AM r.part) := b1.cell rfl
 have c1 : w1.cell? ⟨w.heap.size, 0 + 1, none⟩ = some (AM r.name) := b1.cell rfl
 have c3 : Cells w1 w.heap.size (0 + 3) d5 := cells_drop b1.cells rfl
 ((refine AC ?_; refine AB rfl ?_))
 repeat' first | refine nx rfl ?_ | fail
 by_cases h1 : r.name.length ≤ 100
 ·by_cases h2 : r.part.length ≤ 100
  ·(refine AA (AD rfl ?_) <;> refine AG rfl (Blk.cell (by assumption) (by rfl)) ?_ <;> refine A9 rfl ?_ <;> (refine Ba rfl rfl (fun hc => ?_) (fun hc => ?_) <;> try omega) <;> refine AB rfl (AF rfl (AD rfl ?_)) <;> (refine AF rfl ?_; refine AG rfl (Blk.cell (by assumption) (by rfl)) ?_) <;> refine AF rfl (A9 rfl ?_) <;> (refine AF rfl ?_; (refine Ba rfl rfl (fun hc => ?_) (fun hc => ?_) <;> try omega)) <;> refine AL rfl (AB rfl (AB rfl (AF rfl (AD rfl ?_)))))
   (refine AF rfl ?_; refine AV (L := d5) rfl hd5 c3 ?_)
   ((refine AF rfl ?_; refine AI rfl ?_))
   refine AF rfl ?_
   refine AS (rsmall_ok w1 _ r.formula l hl (hfa.ext k1)) rfl ?_
   rintro _ w2 ⟨rfl, k2⟩
   refine AL rfl (AB rfl (AC (AB rfl ?_)))
   repeat' first | refine nx rfl ?_ | fail
   exact AP rfl ⟨congrArg Value.bool (by simp [smR, h1, h2]), k1.trans k2⟩
  ·(refine AA (AD rfl ?_) <;> refine AG rfl (Blk.cell (by assumption) (by rfl)) ?_ <;> refine A9 rfl ?_ <;> (refine Ba rfl rfl (fun hc => ?_) (fun hc => ?_) <;> try omega) <;> refine AB rfl (AF rfl (AD rfl ?_)) <;> (refine AF rfl ?_; refine AG rfl (Blk.cell (by assumption) (by rfl)) ?_) <;> refine AF rfl (A9 rfl ?_) <;> (refine AF rfl ?_; (refine Ba rfl rfl (fun hc => ?_) (fun hc => ?_) <;> try omega)) <;> refine AL rfl (AB rfl (AB rfl (AJ rfl ?_))))
   refine AJ rfl (AJ rfl (AJ rfl (AQ rfl (AB rfl (AC (AB rfl ?_))))))
   repeat' first | refine nx rfl ?_ | fail
   exact AP rfl ⟨congrArg Value.bool (by simp [smR, h2]), k1⟩
 ·(refine AA (AD rfl ?_) <;> refine AG rfl (Blk.cell (by assumption) (by rfl)) ?_ <;> refine A9 rfl ?_ <;> (refine Ba rfl rfl (fun hc => ?_) (fun hc => ?_) <;> try omega) <;> refine AB rfl (AJ rfl (AJ rfl (AJ rfl (AJ rfl (AQ rfl (AB rfl (AB rfl (AJ rfl ?_)))))))))
  refine AJ rfl (AJ rfl (AJ rfl (AQ rfl (AB rfl (AC (AB rfl ?_))))))
  repeat' first | refine nx rfl ?_ | fail
  exact AP rfl ⟨congrArg Value.bool (by simp [smR, h1]), k1⟩
def smS (s : Spc) (l : Nat) : Bool := decide (s.sigs.length ≤ 10) && decide (s.reqs.length ≤ 20) && s.sigs.all (fun x => decide (x.name.length ≤ 100)) && s.reqs.all fun r => smR r l
set_option maxHeartbeats 1600000 in
theorem rsmallSpec_ok (w : World) (c : List Value) (s : Spc) (l : Nat) (hl : l ≤ 1000000) (hs : spcR.fits A2 w c s) : Fn Tryz.prog 12 [.agg c.toArray, .int .i64 (l : Int)] w fun u w' => u = .bool (smS s l) ∧ Ext w w' := by
 obtain ⟨sa, sc, ra, rc, LS, LR, rfl, hN⟩ := spc_cells hs
 refine Ac Tryz.func12 rfl Tryz.ntmps12 (Nat.le_of_ble_eq_true rfl) (by kernel_rfl) ?_
 repeat' first | refine nx rfl ?_ | fail
 (refine AA ?_; refine BY (L := [.slice sa s.sigs.length sc, .slice ra s.reqs.length rc]) rfl (fun w1 n1 => ?_))
 have hV := hN w1 n1
 have k1 := n1.keep
 have c0 := hV.c0
 have c1 := hV.c1
 ((refine AC ?_; refine AB rfl ?_))
 repeat' first | refine nx rfl ?_ | fail
 by_cases h1 : s.sigs.length ≤ 10
 rotate_left
 ·(refine AA (AD rfl ?_) <;> refine AG rfl (by assumption) ?_ <;> refine Aq rfl ?_ <;> (refine Bs rfl rfl (fun hc => ?_) (fun hc => ?_) <;> try omega) <;> refine AB rfl (AJ rfl (AJ rfl (AJ rfl (AJ rfl (AL rfl (AB rfl ?_)))))))
  repeat' first | refine nx rfl ?_ | fail
  refine AA (AC (AB rfl ?_))
  repeat' first | refine nx rfl ?_ | fail
  exact AP rfl ⟨congrArg Value.bool (by simp [smS, h1]), k1⟩
 by_cases h2 : s.reqs.length ≤ 20
 rotate_left
 ·(refine AA (AD rfl ?_) <;> refine AG rfl (by assumption) ?_ <;> refine Aq rfl ?_ <;> (refine Bs rfl rfl (fun hc => ?_) (fun hc => ?_) <;> try omega) <;> refine AB rfl (AF rfl (AD rfl (AF rfl ?_))) <;> refine AG rfl (by assumption) ?_ <;> refine AF rfl (Aq rfl ?_) <;> (refine AF rfl ?_; (refine Bs rfl rfl (fun hc => ?_) (fun hc => ?_) <;> try omega)) <;> refine AQ rfl (AB rfl ?_))
  repeat' first | refine nx rfl ?_ | fail
  refine AA (AC (AB rfl ?_))
  repeat' first | refine nx rfl ?_ | fail
  exact AP rfl ⟨congrArg Value.bool (by simp [smS, h2]), k1⟩
 (refine AA (AD rfl ?_) <;> refine AG rfl (by assumption) ?_ <;> refine Aq rfl ?_ <;> (refine Bs rfl rfl (fun hc => ?_) (fun hc => ?_) <;> try omega) <;> refine AB rfl (AF rfl (AD rfl (AF rfl ?_))) <;> refine AG rfl (by assumption) ?_ <;> refine AF rfl (Aq rfl ?_) <;> (refine AF rfl ?_; (refine Bs rfl rfl (fun hc => ?_) (fun hc => ?_) <;> try omega)) <;> refine AQ rfl (AB rfl ?_))
 repeat' first | refine nx rfl ?_ | refine nf rfl ?_
 refine AA (AC (AI rfl (AE ?_)))
 repeat' first | refine AE ?_ | refine Cu ?_ | refine Cx ?_
 refine B4 (α := Unit) (fun _ => [(1, .int .i64 (l : Int)), (2, pt w.heap.size)]) (fun _ W => s.sigs.all (fun x => decide (x.name.length ≤ 100)) = true ∧ Ext w1 W) ?_ ?_
 ·repeat' first | refine nx rfl ?_ | fail
  refine BC (α := Nat) (fun k => [(1, .int .i64 (l : Int)), (2, pt w.heap.size), (5, .int .i64 (k : Int))]) (fun k W => k ≤ s.sigs.length ∧ (s.sigs.take k).all (fun x => decide (x.name.length ≤ 100)) = true ∧ Ext w1 W) (fun k => s.sigs.length - k) 0 ⟨rfl, rfl, rfl, trivial⟩ ⟨by simp, by simp, Ext.refl _⟩ ?_
  rintro k w2 f2 ⟨hk, hok, k2⟩
  repeat' first | refine nx rfl ?_ | fail
  have hV2 := hV.ext k2
  have e0 := hV2.c0
  by_cases hlt : k < s.sigs.length
  ·(refine AA (AI rfl (AD rfl ?_)) <;> refine AG rfl (by assumption) ?_ <;> refine Aq rfl ?_ <;> (refine As rfl rfl (fun hc => ?_) (fun hc => ?_) <;> try omega))
   repeat' first | refine nx rfl ?_ | fail
   obtain ⟨x, hx⟩ : ∃ x, s.sigs[k]? = some x := ⟨_, List.getElem?_eq_getElem hlt⟩
   obtain ⟨bs, os, rfl, hcx⟩ := hV2.sig hx
   have x0 : w2.cell? ⟨bs, os + k * 3 + 0, none⟩ = some (AM x.name) := hcx 0 _ rfl
   by_cases hn : x.name.length ≤ 100
   ·(refine AA (AD rfl ?_) <;> refine AG rfl (by assumption) ?_ <;> refine AI rfl ?_ <;> refine Bd rfl rfl rfl (by omega) ?_ <;> refine AD rfl ?_ <;> refine AG rfl (by assumption) ?_ <;> refine A9 rfl ?_ <;> (refine Bs rfl rfl (fun hc => ?_) (fun hc => ?_) <;> try omega))
    repeat' first | refine nx rfl ?_ | refine nf rfl ?_
    (refine AA (AI rfl ?_) <;> refine BB rfl rfl (by first | exact Ak (by omega) (by omega) | exact Ar (by omega) (by omega) | exact Aj (by omega) (by omega)) ?_ <;> refine AC (AI rfl ?_))
    repeat' first | refine nx rfl ?_ | fail
    refine ⟨k + 1, ⟨rfl, ⟨rfl, rfl, ?_, trivial⟩, ⟨hlt, all_take_succ hx hok (by simp [hn]), k2⟩⟩, by omega⟩
    show Value.int .i64 ((k : Int) + 1) = _
    rw [Int.natCast_add]; rfl
   ·(refine AA (AD rfl ?_) <;> refine AG rfl (by assumption) ?_ <;> refine AI rfl ?_ <;> refine Bd rfl rfl rfl (by omega) ?_ <;> refine AD rfl ?_ <;> refine AG rfl (by assumption) ?_ <;> refine A9 rfl ?_ <;> (refine Bs rfl rfl (fun hc => ?_) (fun hc => ?_) <;> try omega))
    repeat' first | refine nx rfl ?_ | fail
    refine AA (AC (AB rfl ?_))
    repeat' first | refine nx rfl ?_ | fail
    exact AP rfl ⟨congrArg Value.bool (by simp only [smS]; rw [all_false hx (p := fun x => decide (x.name.length ≤ 100)) (by simp [hn])]; simp), k1.trans k2⟩
  ·(refine AA (AI rfl (AD rfl ?_)) <;> refine AG rfl (by assumption) ?_ <;> refine Aq rfl ?_ <;> (refine As rfl rfl (fun hc => ?_) (fun hc => ?_) <;> try omega))
   repeat' first | refine nx rfl ?_ | refine nf rfl ?_
   rw [List.take_of_length_le (by omega)] at hok
   exact Ap () ⟨rfl, rfl, trivial⟩ ⟨hok, k2⟩
 rintro _ w2 f2 ⟨hsok, k2⟩
 repeat' first | refine nx rfl ?_ | fail
 refine AA (AC (AI rfl ?_))
 repeat' first | refine nx rfl ?_ | fail
 refine BC (α := Nat) (fun k => [(1, .int .i64 (l : Int)), (2, pt w.heap.size), (6, .int .i64 (k : Int))]) (fun k W => k ≤ s.reqs.length ∧ (s.reqs.take k).all (fun r => smR r l) = true ∧ Ext w1 W) (fun k => s.reqs.length - k) 0 ⟨rfl, rfl, rfl, trivial⟩ ⟨by simp, by simp, k2⟩ ?_
 clear k2
 rintro k w2 f2 ⟨hk, hok, k2⟩
 repeat' first | refine nx rfl ?_ | fail
 have hV2 := hV.ext k2
 have e1 := hV2.c1
 by_cases hlt : k < s.reqs.length
 ·(refine AA (AI rfl (AD rfl ?_)) <;> refine AG rfl (by assumption) ?_ <;> refine Aq rfl ?_ <;> (refine As rfl rfl (fun hc => ?_) (fun hc => ?_) <;> try omega))
  repeat' first | refine nx rfl ?_ | fail
  obtain ⟨r, hr⟩ : ∃ r, s.reqs[k]? = some r := ⟨_, List.getElem?_eq_getElem hlt⟩
  obtain ⟨bs, os, d, _, rfl, hd8, hcd, hfr⟩ := hV2.req hr
  (refine AA (AD rfl ?_) <;> refine AG rfl (by assumption) ?_ <;> refine AI rfl ?_)
  refine Bd (k := k) rfl rfl rfl (by omega) ?_
  refine AV (L := d) rfl hd8 hcd ?_
  (refine AI rfl ?_)
  refine AS (rsmallReq_ok w2 d r l hl hfr) rfl ?_
  rintro _ w3 ⟨rfl, k3⟩
  generalize hb : smR r l = bb
  refine A7 rfl ?_
  cases bb with
  | false =>
   rw [Bool.not_false]
   repeat' first | refine nx rfl ?_ | fail
   refine AA (AC (AB rfl ?_))
   repeat' first | refine nx rfl ?_ | fail
   exact AP rfl ⟨congrArg Value.bool (by simp only [smS]; rw [all_false hr (p := fun r => smR r l) hb]; simp), (k1.trans k2).trans k3⟩
  | true =>
   rw [Bool.not_true]
   repeat' first | refine nx rfl ?_ | refine nf rfl ?_
   (refine AA (AI rfl ?_) <;> refine BB rfl rfl (by first | exact Ak (by omega) (by omega) | exact Ar (by omega) (by omega) | exact Aj (by omega) (by omega)) ?_ <;> refine AC (AI rfl ?_))
   repeat' first | refine nx rfl ?_ | fail
   refine ⟨k + 1, ⟨rfl, ⟨rfl, rfl, ?_, trivial⟩, ⟨hlt, all_take_succ hr hok hb, k2.trans k3⟩⟩, by omega⟩
   show Value.int .i64 ((k : Int) + 1) = _
   rw [Int.natCast_add]; rfl
 ·(refine AA (AI rfl (AD rfl ?_)) <;> refine AG rfl (by assumption) ?_ <;> refine Aq rfl ?_ <;> (refine As rfl rfl (fun hc => ?_) (fun hc => ?_) <;> try omega))
  repeat' first | refine nx rfl ?_ | refine nf rfl ?_
  refine AA (AC (AB rfl ?_))
  repeat' first | refine nx rfl ?_ | fail
  rw [List.take_of_length_le (by omega)] at hok
  exact AP rfl ⟨congrArg Value.bool (by simp only [smS, hsok, hok, decide_eq_true h1, decide_eq_true h2]; rfl), k1.trans k2⟩
theorem smS_sz {s : Spc} {l : Nat} (h : smS s l = true) : szS s ≤ 10 + 20 * (l + 4) := by
 simp only [smS, Bool.and_eq_true, decide_eq_true_eq] at h
 obtain ⟨⟨⟨h1, h2⟩, _⟩, h4⟩ := h
 have : ∀ rs : List Rqm, rs.all (fun r => smR r l) = true → szR rs ≤ rs.length * (l + 4) := by
  intro rs
  induction rs with
  | nil => intro _; simp [szR]
  | cons r rs ih =>
   intro h
   rw [List.all_cons, Bool.and_eq_true] at h
   have h5 := h.1
   simp only [smR, Bool.and_eq_true, decide_eq_true_eq] at h5
   have := ih h.2
   simp only [szR, List.map_cons, List.sum_cons, List.length_cons, Nat.add_mul, Nat.one_mul] at this ⊢
   omega
 have h5 := this _ h4
 have : s.reqs.length * (l + 4) ≤ 20 * (l + 4) := Nat.mul_le_mul_right _ h2
 unfold szS
 omega
end Go.Proofs.YtfcgdbmoncnibaaGreatDoor
namespace Go.Proofs.YtfcgdbmoncnibaaGreatDoor
set_option linter.unusedVariables false
variable {mk : Prop} [MK mk]
def cnt (l : List Tok) : Nat := l.countP fun x => decide (x.text = [40])
end Go.Proofs.YtfcgdbmoncnibaaGreatDoor
namespace Go.Proofs.YtfcgdbmoncnibaaGreatDoor
set_option linter.unusedVariables false
def itG {α : Type} (o : List UInt8 → List α) (m : Rqm → List α) (c : List α) (l : List Rqm) (i : Nat) : List α := match l[i]? with
 | none => []
 | some r => (if i = 0 ∨ (l[i - 1]?).map (·.part) ≠ some r.part then o r.part else []) ++ (m r ++ (if i + 1 = l.length ∨ (l[i + 1]?).map (·.part) ≠ some r.part then c else []))
def itR {α : Type} (o : List UInt8 → List α) (m : Rqm → List α) (c : List α) (prev : Option (List UInt8)) : List Rqm → List α
 | [] => []
 | r :: l => (if prev ≠ some r.part then o r.part else []) ++ (m r ++ ((if l.head?.map (·.part) ≠ some r.part then c else []) ++ itR o m c (some r.part) l))
theorem itG_itR {α : Type} (o : List UInt8 → List α) (m : Rqm → List α) (c : List α) : ∀ (l2 l1 : List Rqm), (List.range' l1.length l2.length).flatMap (itG o m c (l1 ++ l2)) = itR o m c (l1.getLast?.map (·.part)) l2
 | [], l1 => by simp [itR]
 | r :: l2, l1 => by
  have ih := itG_itR o m c l2 (l1 ++ [r])
  rw [List.append_assoc, List.singleton_append] at ih
  simp only [List.length_append, List.length_singleton, List.getLast?_append, List.getLast?_singleton, Option.some_or, Option.map_some] at ih
  rw [List.length_cons, List.range'_succ, List.flatMap_cons, ih]
  have hr : (l1 ++ r :: l2)[l1.length]? = some r := by simp
  have h1 : (l1.length = 0 ∨ ((l1 ++ r :: l2)[l1.length - 1]?).map (·.part) ≠ some r.part) ↔ l1.getLast?.map (·.part) ≠ some r.part := by
   cases l1 with
   | nil => simp
   | cons a k =>
    have : ((a :: k) ++ r :: l2)[(a :: k).length - 1]? = (a :: k).getLast? := by
     rw [List.getElem?_append_left (by simp), List.getLast?_eq_getElem?]
    rw [this]
    simp
  have h2 : (l1.length + 1 = (l1 ++ r :: l2).length ∨ ((l1 ++ r :: l2)[l1.length + 1]?).map (·.part) ≠ some r.part) ↔ l2.head?.map (·.part) ≠ some r.part := by
   rw [List.getElem?_append_right (by omega), show l1.length + 1 - l1.length = 0 + 1 by omega, List.getElem?_cons_succ]
   cases l2 with
   | nil => simp
   | cons b k => simp
  have e : itG o m c (l1 ++ r :: l2) l1.length = (if l1.getLast?.map (·.part) ≠ some r.part then o r.part else []) ++ (m r ++ (if l2.head?.map (·.part) ≠ some r.part then c else [])) := by
   unfold itG
   rw [hr]
   simp only [h1, h2]
  rw [e]
  simp [itR]
theorem itG_all {α : Type} (o : List UInt8 → List α) (m : Rqm → List α) (c : List α) (l : List Rqm) : (List.range l.length).flatMap (itG o m c l) = itR o m c none l := by
 have := itG_itR o m c l []
 rw [List.range_eq_range']
 simpa using this
def oT (p : List UInt8) : List UInt8 := [112, 97, 114, 116, 32] ++ (p ++ [32, 123, 10])
def mT (r : Rqm) : List UInt8 := [32, 32] ++ (reqT r ++ [59, 10])
theorem rqsT_eq (l : List Rqm) : rqsT l = itR oT mT [125, 10] none l := by
 rw [← itG_all]
 unfold rqsT
 congr 1
 funext i
 unfold rqI itG
 cases l[i]? with
 | none => rfl
 | some r => simp [oT, mT]
end Go.Proofs.YtfcgdbmoncnibaaGreatDoor
namespace Go.Proofs.YtfcgdbmoncnibaaGreatDoor
set_option linter.unusedVariables false
end Go.Proofs.YtfcgdbmoncnibaaGreatDoor
namespace Go.Proofs.YtfcgdbmoncnibaaGreatDoor
set_option linter.unusedVariables false
end Go.Proofs.YtfcgdbmoncnibaaGreatDoor
namespace Go.Proofs.YtfcgdbmoncnibaaGreatDoor
open Go.RowKit
set_option linter.unusedVariables false
end Go.Proofs.YtfcgdbmoncnibaaGreatDoor
namespace Go.Proofs.YtfcgdbmoncnibaaGreatDoor
open Go.RowKit
set_option linter.unusedVariables false
end Go.Proofs.YtfcgdbmoncnibaaGreatDoor
namespace Go.Proofs.YtfcgdbmoncnibaaGreatDoor
set_option linter.unusedVariables false
theorem sgnT_ne (x : Sgn) : sgnT x ≠ [] := by
 intro e
 have := congrArg List.length e
 simp only [sgnT, List.length_append, List.length_cons, List.length_nil] at this
 omega
theorem mT_ne (r : Rqm) : mT r ≠ [] := by simp [mT]
theorem spc_ne {s : Spc} (h : spcT s = []) : s.sigs = [] ∧ s.reqs = [] := by
 obtain ⟨l, m⟩ := s
 unfold spcT at h
 obtain ⟨h1, h2⟩ := List.append_eq_nil_iff.1 h
 constructor
 ·cases l with
  | nil => rfl
  | cons x l =>
   rw [List.flatMap_cons] at h1
   exact absurd (List.append_eq_nil_iff.1 h1).1 (sgnT_ne x)
 ·cases m with
  | nil => rfl
  | cons r m =>
   rw [rqsT_eq] at h2
   simp only [itR] at h2
   obtain ⟨_, h3⟩ := List.append_eq_nil_iff.1 h2
   exact absurd (List.append_eq_nil_iff.1 h3).1 (mT_ne r)
end Go.Proofs.YtfcgdbmoncnibaaGreatDoor
namespace Go.Proofs.YtfcgdbmoncnibaaGreatDoor
set_option linter.unusedVariables false
def plainB (s : List UInt8) : Bool := s.all fun c => !decide (c = 40) && !decide (c = 41) && !decide (c = 10)
theorem plainB_app (s t : List UInt8) : plainB (s ++ t) = (plainB s && plainB t) := by simp [plainB]
theorem plain_name {c : UInt8} (h : CP c = true) : (!decide (c = 40) && !decide (c = 41) && !decide (c = 10)) = true := by
 have e : ∀ k : UInt8, CP k = false → c ≠ k := fun k hk e => by rw [e, hk] at h; cases h
 simp [e 40 (by decide), e 41 (by decide), e 10 (by decide)]
theorem plain_dig {c : UInt8} (h : A0 c = true) : (!decide (c = 40) && !decide (c = 41) && !decide (c = 10)) = true := plain_name (by simp [CP, h])
theorem plain_num (n : Int) : plainB (numT n) = true := List.all_eq_true.2 fun c hc => plain_dig (digs_dig _ _ (Nat.le_refl _) c hc)
theorem plain_nm {nm : List UInt8} (h : BN nm = true) : plainB nm = true := List.all_eq_true.2 fun c hc => plain_name (List.all_eq_true.1 (BV h).2.2.2.1 c hc)
theorem sgn_plain : (styL.all fun p => plainB p.2.sign) = true := by decide
theorem sign_plain {op : Int} {s : Sty} (h : Bt op = some s) : plainB s.sign = true := by
 have : (op, s) ∈ styL := by
  unfold Bt at h
  revert h
  have : ∀ l : List (Int × Sty), l.lookup op = some s → (op, s) ∈ l := by
   intro l
   induction l with
   | nil => intro h; cases h
   | cons p l ih =>
    intro h
    obtain ⟨a, b⟩ := p
    rw [List.lookup_cons] at h
    by_cases e : op = a
    ·subst e
     rw [beq_self_eq_true] at h
     cases h; exact List.mem_cons_self
    ·rw [show (op == a) = false by simpa using e] at h
     exact List.mem_cons_of_mem _ (ih h)
  exact this styL
 exact List.all_eq_true.1 sgn_plain _ this
theorem sgT_plain {op v b : Int} {nm : List UInt8} {k : Nat} (h : Cn op nm v b k = true) : plainB (sgT op nm v b) = true := by
 obtain ⟨s, hs, _, _, _, _, _, _, hn, _⟩ := node_parts h
 have h1 := sign_plain hs
 rw [← styD_of hs] at h1
 unfold sgT
 split
 ·rename_i e
  have h2 := plain_nm (hn e)
  split
  ·exact h2
  ·simp only [plainB_app, h2, plain_num]; rfl
 split
 ·simp only [plainB_app, h1, plain_num]; rfl
 split
 ·split <;> rfl
 split
 ·split
  ·simp only [plainB_app, h1]; rfl
  ·simp only [plainB_app, h1, plain_num]; rfl
 ·exact h1
theorem take_succ_get {s : List UInt8} {k : Nat} {c : UInt8} (h : s[k]? = some c) : s.take (k + 1) = s.take k ++ [c] := by rw [List.take_add_one, h]; rfl
end Go.Proofs.YtfcgdbmoncnibaaGreatDoor
namespace Go.Proofs.YtfcgdbmoncnibaaGreatDoor
set_option linter.unusedVariables false
def lfs (s : List UInt8) : Nat := s.countP fun c => decide (c = 10)
theorem Ce (s t : List UInt8) : lfs (s ++ t) = lfs s + lfs t := by simp [lfs]
theorem lfs_nil : lfs [] = 0 := rfl
theorem plain_lfs {s : List UInt8} (h : plainB s = true) : lfs s = 0 := by
 unfold lfs; rw [List.countP_eq_zero]
 intro c hc
 have := List.all_eq_true.1 h c hc
 simp only [Bool.and_eq_true, Bool.not_eq_true', decide_eq_false_iff_not] at this
 simpa using this.2
theorem lfs_wrap (b : Bool) (s : List UInt8) : lfs (wrapT b s) = lfs s := by
 cases b with
 | false => rfl
 | true =>
  show lfs ([40] ++ (s ++ [41])) = _
  rw [Ce, Ce]
  have e1 : lfs [40] = 0 := rfl
  have e2 : lfs [41] = 0 := rfl
  omega
section
variable {op v b : Int} {nm : List UInt8} {k : Nat} (h : Cn op nm v b k = true)
include h
theorem lfs_R (next : Nat) : ∀ l : List Fml, (∀ a ∈ l, lfs (prF next a) = 0) → lfs (prR next (sgT op nm v b) l) = 0
 | [], _ => rfl
 | a :: l, hl => by
  simp only [prR, Ce, plain_lfs (sgT_plain h), hl a (by simp), lfs_R next l fun c hc => hl c (by simp [hc])]
theorem lfs_A (first next : Nat) : ∀ l : List Fml, (∀ a ∈ l, ∀ n, lfs (prF n a) = 0) → lfs (prA first next (sgT op nm v b) l) = 0
 | [], _ => plain_lfs (sgT_plain h)
 | a :: l, hl => by
  simp only [prA, Ce, hl a (by simp), lfs_R h next l fun c hc => hl c (by simp [hc]) _]
  split
  ·rw [plain_lfs (sgT_plain h)]
  ·rfl
end
theorem lfs_F : ∀ (m : Nat) (f : Fml), SizeOf.sizeOf f ≤ m → okF f = true → ∀ n, lfs (prF n f) = 0
 | 0, f, hm, _ => by cases f; simp at hm
 | m + 1, .mk op nm v b args, hm, hok => by
  simp only [okF, Bool.and_eq_true] at hok
  have hl : ∀ a ∈ args, ∀ n, lfs (prF n a) = 0 := fun a ha => lfs_F m a (by have := List.sizeOf_lt_of_mem ha; simp at hm; omega) (okL_mem hok.2 a ha)
  intro n
  simp only [prF]
  rw [lfs_wrap, lfs_A hok.1 _ _ args hl]
theorem lfs_fml {f : Fml} (h : okF f = true) : lfs (prF 0 f) = 0 := lfs_F _ f (Nat.le_refl _) h 0
theorem lfs_req {r : Rqm} (h : okR r = true) : lfs (reqT r) = 0 := by
 simp only [okR, Bool.and_eq_true] at h
 simp only [reqT, Ce, lfs_fml h.2, plain_lfs (plain_nm h.1.2)]
 split <;> rfl
theorem lfs_sgn {x : Sgn} (h : okS x = true) : lfs (sgnT x) = 1 := by
 simp only [okS, Bool.and_eq_true] at h
 simp only [sgnT, Ce, plain_lfs (plain_nm h.1)]
 have e1 : lfs (if x.input then [105, 110, 112, 117, 116, 32] else [111, 117, 116, 112, 117, 116, 32]) = 0 := by split <;> rfl
 have e2 : lfs (if x.size = 2 then [] else [58, 32] ++ numT x.size) = 0 := by
  split
  ·rfl
  ·rw [Ce, plain_lfs (plain_num _)]; rfl
 have e3 : lfs [59, 10] = 1 := rfl
 omega
theorem lfs_sgns : ∀ l : List Sgn, l.all okS = true → lfs (l.flatMap sgnT) = l.length
 | [], _ => rfl
 | x :: l, h => by
  rw [List.all_cons, Bool.and_eq_true] at h
  rw [List.flatMap_cons, Ce, lfs_sgn h.1, lfs_sgns l h.2, List.length_cons]; omega
def stN : Option (List UInt8) → List Rqm → Nat
 | _, [] => 0
 | prev, r :: l => (if prev ≠ some r.part then 1 else 0) + stN (some r.part) l
def enN : List Rqm → Nat
 | [] => 0
 | r :: l => (if l.head?.map (·.part) ≠ some r.part then 1 else 0) + enN l
theorem enN_cons : ∀ (l : List Rqm) (r : Rqm), enN (r :: l) = 1 + stN (some r.part) l
 | [], r => by simp [enN, stN]
 | q :: l, r => by
  have ih := enN_cons l q
  rw [enN, ih]
  simp only [stN, List.head?_cons, Option.map_some]
  by_cases h : q.part = r.part
  ·simp [h]
  ·have h' : ¬ r.part = q.part := fun e => h e.symm
   simp [h, h']
theorem enN_eq (l : List Rqm) : enN l = stN none l := by
 cases l with
 | nil => rfl
 | cons r l => rw [enN_cons]; simp [stN]
theorem lfs_itR : ∀ (l : List Rqm) (prev : Option (List UInt8)), l.all okRq = true → lfs (itR oT mT [125, 10] prev l) = l.length + stN prev l + enN l
 | [], _, _ => rfl
 | r :: l, prev, h => by
  rw [List.all_cons, Bool.and_eq_true] at h
  have h1 := h.1
  simp only [okRq, Bool.and_eq_true] at h1
  have ih := lfs_itR l (some r.part) h.2
  have e1 : lfs (oT r.part) = 1 := by
   simp only [oT, Ce, plain_lfs (plain_nm h1.1)]; rfl
  have e2 : lfs (mT r) = 1 := by
   simp only [mT, Ce, lfs_req h1.2]; rfl
  have e3 : lfs [125, 10] = 1 := rfl
  simp only [itR, Ce, ih, e2, stN, enN, List.length_cons]
  split <;> split <;> simp only [e1, e3, lfs_nil] <;> omega
theorem lfs_spc {s : Spc} (h : Co s = true) : lfs (spcT s) = s.sigs.length + s.reqs.length + 2 * stN none s.reqs := by
 simp only [Co, Bool.and_eq_true] at h
 unfold spcT
 rw [Ce, lfs_sgns _ h.1, rqsT_eq, lfs_itR _ _ h.2, enN_eq]; omega
theorem stN_snoc : ∀ (l : List Rqm) (prev : Option (List UInt8)) (r : Rqm), stN prev (l ++ [r]) = stN prev l + (if (l.getLast?.map (·.part)).or prev ≠ some r.part then 1 else 0)
 | [], prev, r => by
  simp only [List.nil_append, stN, List.getLast?_nil, Option.map_none, Option.none_or, Nat.add_zero, Nat.zero_add]
  by_cases h : prev = some r.part
  ·exact (if_neg (fun e => e h)).trans (if_neg (fun e => e h)).symm
  ·exact (if_pos h).trans (if_pos h).symm
 | q :: l, prev, r => by
  rw [List.cons_append, stN, stN_snoc l (some q.part) r, stN]
  have e : (l.getLast?.map (·.part)).or (some q.part) = ((q :: l).getLast?.map (·.part)).or prev := by
   cases l with
   | nil => simp
   | cons x l =>
    rw [List.getLast?_cons_cons]
    have : ∃ y, (x :: l).getLast? = some y := ⟨_, List.getLast?_eq_some_getLast (by simp)⟩
    obtain ⟨y, hy⟩ := this
    rw [hy]; rfl
  rw [e]; omega
theorem stN_take {l : List Rqm} {k : Nat} {r : Rqm} (hr : l[k]? = some r) : stN none (l.take (k + 1)) = stN none (l.take k) + (if k = 0 ∨ (l[k - 1]?).map (·.part) ≠ some r.part then 1 else 0) := by
 have hl := (List.getElem?_eq_some_iff.1 hr).1
 rw [List.take_add_one, hr]
 show stN none (l.take k ++ [r]) = _
 rw [stN_snoc]
 cases k with
 | zero => simp
 | succ k =>
  have e : (l.take (k + 1)).getLast? = l[k]? := by
   rw [List.getLast?_eq_getElem?, List.length_take, Nat.min_eq_left (by omega), List.getElem?_take, if_pos (by omega)]
   rfl
  rw [e, show k + 1 - 1 = k by omega]
  have : ∃ y, l[k]? = some y := ⟨_, List.getElem?_eq_getElem (by omega)⟩
  obtain ⟨y, hy⟩ := this
  rw [hy]
  simp
def EndLF (s : List UInt8) : Prop := s = [] ∨ s.getLast? = some 10
theorem EndLF.app {s t : List UInt8} (h : EndLF s) (h' : EndLF t) : EndLF (s ++ t) := by
 rcases h' with rfl | h'
 ·rw [List.append_nil]; exact h
 ·right; rw [List.getLast?_append, h']; rfl
theorem EndLF.pre {s t : List UInt8} (h : t ≠ []) (h' : EndLF t) : EndLF (s ++ t) := by
 right; rw [List.getLast?_append, h'.resolve_left h]; rfl
theorem end_sgns : ∀ l : List Sgn, EndLF (l.flatMap sgnT)
 | [] => .inl rfl
 | x :: l => by
  rw [List.flatMap_cons]
  refine EndLF.app (.inr ?_) (end_sgns l)
  unfold sgnT
  rw [List.getLast?_append]; rfl
theorem end_itR : ∀ (l : List Rqm) (prev : Option (List UInt8)), EndLF (itR oT mT [125, 10] prev l)
 | [], _ => .inl rfl
 | r :: l, prev => by
  simp only [itR]
  have h1 : EndLF (mT r) := by
   right
   have : mT r = ([32, 32] ++ reqT r) ++ [59, 10] := by simp [mT]
   rw [this, List.getLast?_append]; rfl
  refine EndLF.pre (by simp [mT]) (h1.app (EndLF.app ?_ (end_itR l _)))
  split
  ·exact .inr rfl
  ·exact .inl rfl
theorem end_spc (s : Spc) : EndLF (spcT s) := by
 unfold spcT
 rw [rqsT_eq]
 exact (end_sgns _).app (end_itR _ _)
end Go.Proofs.YtfcgdbmoncnibaaGreatDoor
namespace Go.Proofs.YtfcgdbmoncnibaaGreatDoor
open Go.RowKit
set_option linter.unusedVariables false
set_option maxHeartbeats 1600000 in
theorem lines_ok (w : World) (c : List Value) (s : Spc) (hs : spcR.fits A2 w c s) (hG : GP w) (hF : GF w) :
  Fn Tryz.prog 5 [.agg c.toArray] w fun u w' => u = .bool true ∧ Ext w w' := by
 obtain ⟨sa, sc, ra, rc, LS, LR, rfl, hN⟩ := spc_cells hs
 refine Ac Tryz.func5 rfl Tryz.ntmps5 (Nat.le_of_ble_eq_true rfl) (by kernel_rfl) ?_
 repeat' first | refine nx rfl ?_ | refine nf rfl ?_
 (refine AA ?_; refine BY (L := [.slice sa s.sigs.length sc, .slice ra s.reqs.length rc]) rfl (fun w1 n1 => ?_))
 have hV := hN w1 n1
 have k1 := n1.keep
 have b1 := n1.blk
 ((refine AC ?_; (first | refine AB rfl ?_ | refine AU ?_)))
 repeat' first | refine nx rfl ?_ | refine nf rfl ?_
 (refine AA ?_)
 refine AS (head_ok w1 (hG.ext k1) (hF.ext k1)) rfl ?_
 rintro _ w2 ⟨rfl, k2⟩
 ((refine AC ?_; (first | refine AB rfl ?_ | refine AU ?_)))
 repeat' first | refine nx rfl ?_ | refine nf rfl ?_
 (refine AA ?_; refine AY rfl (b1.keep k2 (by simp)) rfl ?_)
 refine AS (rsmallSpec_ok w2 _ s 200 (by omega) (spcR.ext hs (k1.trans k2))) rfl ?_
 rintro _ w3 ⟨rfl, k3⟩
 have k13 := k2.trans k3
 cases hs2 : smS s 200 with
 | false =>
  (refine A7 rfl ?_ <;> (first | refine AB rfl ?_ | refine AU ?_) <;> (first | refine AJ rfl ?_ | (refine AF rfl ?_; (first | refine AY rfl (by assumption) (by rfl) ?_ | refine AV rfl (by rfl) (Blk.cells (by assumption)) ?_))) <;> refine AJ rfl ?_ <;> (first | refine AJ rfl ?_ | (refine AF rfl ?_; refine A7 rfl ?_)) <;> ((first | refine AL rfl ?_ | refine AQ rfl ?_); (first | refine AB rfl ?_ | refine AU ?_)))
  repeat' first | refine nx rfl ?_ | refine nf rfl ?_
  (refine AA ?_ <;> (first | refine AB rfl ?_ | refine AU ?_) <;> (refine AC ?_; (first | refine AB rfl ?_ | refine AU ?_)))
  repeat' first | refine nx rfl ?_ | refine nf rfl ?_
  exact AP rfl ⟨rfl, k1.trans k13⟩
 | true =>
 have hsz := smS_sz hs2
 have hrl := szR_len s.reqs
 have hsl2 : s.sigs.length + szR s.reqs = szS s := rfl
 (refine A7 rfl ?_ <;> (first | refine AB rfl ?_ | refine AU ?_))
 (refine AF rfl ?_; refine AY rfl (b1.keep k13 (by simp)) rfl ?_)
 (refine AF rfl ?_; refine AS (rprintSpec_ok w3 _ s (spcR.ext hs (k1.trans k13)) (by omega)) rfl ?_)
 rintro _ w4 ⟨rfl, k4⟩
 have k14 := k13.trans k4
 cases hok : Co s with
 | false =>
  ((first | refine AJ rfl ?_ | (refine AF rfl ?_; refine A7 rfl ?_)) <;> ((first | refine AL rfl ?_ | refine AQ rfl ?_); (first | refine AB rfl ?_ | refine AU ?_)))
  repeat' first | refine nx rfl ?_ | refine nf rfl ?_
  (refine AA ?_ <;> (first | refine AB rfl ?_ | refine AU ?_) <;> (refine AC ?_; (first | refine AB rfl ?_ | refine AU ?_)))
  repeat' first | refine nx rfl ?_ | refine nf rfl ?_
  exact AP rfl ⟨rfl, k1.trans k14⟩
 | true =>
 ((first | refine AJ rfl ?_ | (refine AF rfl ?_; refine A7 rfl ?_)) <;> ((first | refine AL rfl ?_ | refine AQ rfl ?_); (first | refine AB rfl ?_ | refine AU ?_)))
 repeat' first | refine nx rfl ?_ | refine nf rfl ?_
 have c0 := (hV.ext k14).c0
 have c1 := (hV.ext k14).c1
 (refine AA (AD rfl ?_) <;> (first | refine AG rfl (Blk.cell (by assumption) (by rfl)) ?_ | refine AG rfl (by assumption) ?_) <;> refine Aq rfl (AD rfl ?_) <;> (first | refine AG rfl (Blk.cell (by assumption) (by rfl)) ?_ | refine AG rfl (by assumption) ?_) <;> refine Aq rfl ?_ <;> refine BB rfl rfl (by first | exact Ak (by omega) (by omega) | exact Ar (by omega) (by omega) | exact Aj (by omega) (by omega)) ?_ <;> (refine AC ?_; (first | refine AI rfl ?_ | refine AU ?_)))
 repeat' first | refine nx rfl ?_ | refine nf rfl ?_
 (refine AA ?_ <;> (refine AC ?_; (first | refine AI rfl ?_ | refine AU ?_)))
 repeat' first | refine nx rfl ?_ | refine nf rfl ?_
 refine BC (α := Nat) (fun k => [(1, pt w.heap.size), (3, .bool true), (4, .int .i64 ((s.sigs.length + s.reqs.length + 2 * stN none (s.reqs.take k) : Nat) : Int)), (5, .int .i64 (k : Int))]) (fun k W => k ≤ s.reqs.length ∧ Ext w1 W) (fun k => s.reqs.length - k) 0 ⟨rfl, rfl, congrArg (Value.int .i64) (by simp [stN]), rfl, trivial⟩ ⟨by simp, k14⟩ ?_
 clear k14 k13 k2 k3 k4 c0 c1
 rintro k w5 f5 ⟨hk, k5⟩
 repeat' first | refine nx rfl ?_ | refine nf rfl ?_
 have hV5 := hV.ext k5
 have c1 := hV5.c1
 have hsn : stN none (s.reqs.take k) ≤ s.reqs.length := by
  have : ∀ (l : List Rqm) (p : Option (List UInt8)), stN p l ≤ l.length := by
   intro l
   induction l with
   | nil => intro p; simp [stN]
   | cons r l ih => intro p; have := ih (some r.part); simp only [stN, List.length_cons]; split <;> omega
  have := this (s.reqs.take k) none
  rw [List.length_take] at this
  omega
 by_cases hlt : k < s.reqs.length
 ·(refine AA ?_ <;> (first | refine AI rfl ?_ | refine AU ?_) <;> refine AD rfl ?_ <;> (first | refine AG rfl (Blk.cell (by assumption) (by rfl)) ?_ | refine AG rfl (by assumption) ?_) <;> refine Aq rfl ?_ <;> (refine As rfl rfl (fun hc => ?_) (fun hc => ?_) <;> try omega))
  repeat' first | refine nx rfl ?_ | refine nf rfl ?_
  obtain ⟨r, hr⟩ : ∃ r, s.reqs[k]? = some r := ⟨_, List.getElem?_eq_getElem hlt⟩
  have hst := stN_take hr
  obtain ⟨br, or, d, _, era, hd8, hcd, hfr⟩ := hV5.req hr
  subst era
  have hprt : ∀ (W : World), Ext w5 W → ∀ j r', s.reqs[j]? = some r' → W.cell? ⟨br, or + j * 8 + 0, none⟩ = some (AM r'.part) := by
   intro W hW j r' hr'
   obtain ⟨_, _, d', _, e, _, hcr', hf'⟩ := (hV5.ext hW).req hr'
   cases e
   obtain ⟨d5, e5, _⟩ := hf'
   exact hcr' 0 _ (by rw [e5]; rfl)
  generalize stN none (s.reqs.take k) = a at hst hsn
  have hcc : ∃ cc : Bool, cc = decide (k = 0 ∨ (s.reqs[k - 1]?).map (·.part) ≠ some r.part) := ⟨_, rfl⟩
  obtain ⟨cc, hcc⟩ := hcc
  rw [show (if k = 0 ∨ (s.reqs[k - 1]?).map (·.part) ≠ some r.part then 1 else 0) = if cc = true then 1 else 0 by rw [hcc]; simp only [decide_eq_true_eq]] at hst
  refine B4 (α := Unit) (fun _ => [(1, pt w.heap.size), (3, .bool true), (4, .int .i64 ((s.sigs.length + s.reqs.length + 2 * a : Nat) : Int)), (5, .int .i64 (k : Int)), (50, .bool cc)]) (fun _ W => Ext w5 W) ?_ ?_
  ·refine BQ (.read 0 (.read 1 (.read 2 (.read 3 (.read 4 (.read 5 (.read 6 (.read 7 (.read 8 (.read 9 (.read 10 (.read 11 (.read 12 (.read 13 (.read 14 (.read 15 (.read 16 (.read 17 .done)))))))))))))))))) BE (by kernel_rfl) (fun wd kd ed => ⟨Ext wd, ?_, ?_⟩)
   ·exact Ext.refl _
   have fsv : ∀ W, Ext wd W → W.cell? ⟨w.heap.size, 0 + 1, none⟩ = some (.slice (some ⟨br, or, none⟩) s.reqs.length rc) := fun W e => (kd.trans e).cell c1 (by simp)
   have fr0 : ∀ W, Ext wd W → W.cell? ⟨br, or + k * 8 + 0, none⟩ = some (AM r.part) := fun W e => hprt W (kd.trans e) k r hr
   by_cases hk0 : k = 0
   ·subst hk0
    have ecc : cc = true := by rw [hcc]; simp
    subst ecc
    ((apply D_R rfl rfl; (intro W hW; (first | refine AI rfl ?_ | refine AU ?_); exact AE ⟨rfl, rfl, rfl⟩)) <;> (refine D_eql rfl rfl rfl rfl (fun hc => ?_) (fun hc => ?_) <;> try omega) <;> (apply D_R rfl rfl; (intro W hW; (first | refine AB rfl ?_ | refine AU ?_); exact AE ⟨rfl, rfl, rfl⟩)) <;> (first | refine Aa rfl rfl rfl rfl ?_ | (apply D_R rfl rfl; (intro W hW; refine AJ rfl ?_; exact AE ⟨rfl, rfl, rfl⟩)) | (apply D_R rfl rfl; (intro W hW; (refine AF rfl ?_; refine AD rfl ?_); exact AE ⟨rfl, rfl, rfl⟩))) <;> (first | refine Aa rfl rfl rfl rfl ?_ | (apply D_R rfl rfl; (intro W hW; refine AJ rfl ?_; exact AE ⟨rfl, rfl, rfl⟩)) | (apply D_R rfl rfl; (intro W hW; (refine AF rfl ?_; (first | refine AG rfl (Blk.cell (by assumption) (by rfl)) ?_ | refine AG rfl (by assumption) ?_)); exact AE ⟨rfl, rfl, rfl⟩))) <;> (first | refine Aa rfl rfl rfl rfl ?_ | (apply D_R rfl rfl; (intro W hW; refine AJ rfl ?_; exact AE ⟨rfl, rfl, rfl⟩)) | (apply D_R rfl rfl; (intro W hW; (refine AF rfl ?_; (first | refine AI rfl ?_ | refine AU ?_)); exact AE ⟨rfl, rfl, rfl⟩))) <;> (first | refine Aa rfl rfl rfl rfl ?_ | (apply D_R rfl rfl; (intro W hW; refine AJ rfl ?_; exact AE ⟨rfl, rfl, rfl⟩)) | (apply D_R rfl rfl; (intro W hW; (refine AF rfl ?_; (first | refine W_idx1 rfl rfl rfl (by omega) ?_ | refine Bd rfl rfl rfl (by omega) ?_ | refine A1 rfl rfl (by omega) (by omega) ?_)); exact AE ⟨rfl, rfl, rfl⟩))) <;> (first | refine Aa rfl rfl rfl rfl ?_ | (apply D_R rfl rfl; (intro W hW; refine AJ rfl ?_; exact AE ⟨rfl, rfl, rfl⟩)) | (apply D_R rfl rfl; (intro W hW; (refine AF rfl ?_; refine AD rfl ?_); exact AE ⟨rfl, rfl, rfl⟩))) <;> (first | refine Aa rfl rfl rfl rfl ?_ | (apply D_R rfl rfl; (intro W hW; refine AJ rfl ?_; exact AE ⟨rfl, rfl, rfl⟩)) | (apply D_R rfl rfl; (intro W hW; (refine AF rfl ?_; (first | refine AG rfl (Blk.cell (by assumption) (by rfl)) ?_ | refine AG rfl (by assumption) ?_)); exact AE ⟨rfl, rfl, rfl⟩))) <;> (first | refine Aa rfl rfl rfl rfl ?_ | (apply D_R rfl rfl; (intro W hW; refine AJ rfl ?_; exact AE ⟨rfl, rfl, rfl⟩)) | (apply D_R rfl rfl; (intro W hW; (refine AF rfl ?_; refine AD rfl ?_); exact AE ⟨rfl, rfl, rfl⟩))) <;> (first | refine Aa rfl rfl rfl rfl ?_ | (apply D_R rfl rfl; (intro W hW; refine AJ rfl ?_; exact AE ⟨rfl, rfl, rfl⟩)) | (apply D_R rfl rfl; (intro W hW; (refine AF rfl ?_; (first | refine AG rfl (Blk.cell (by assumption) (by rfl)) ?_ | refine AG rfl (by assumption) ?_)); exact AE ⟨rfl, rfl, rfl⟩))) <;> (first | refine Aa rfl rfl rfl rfl ?_ | (apply D_R rfl rfl; (intro W hW; refine AJ rfl ?_; exact AE ⟨rfl, rfl, rfl⟩)) | (apply D_R rfl rfl; (intro W hW; (refine AF rfl ?_; (first | refine AI rfl ?_ | refine AU ?_)); exact AE ⟨rfl, rfl, rfl⟩))) <;> (first | refine Aa rfl rfl rfl rfl ?_ | (apply D_R rfl rfl; (intro W hW; refine AJ rfl ?_; exact AE ⟨rfl, rfl, rfl⟩)) | (apply D_R rfl rfl; (intro W hW; (refine AF rfl ?_; refine W_sub rfl rfl (by first | exact Ak (by omega) (by omega) | exact Ar (by omega) (by omega) | exact Aj (by omega) (by omega)) ?_); exact AE ⟨rfl, rfl, rfl⟩))) <;> (first | refine Aa rfl rfl rfl rfl ?_ | (apply D_R rfl rfl; (intro W hW; refine AJ rfl ?_; exact AE ⟨rfl, rfl, rfl⟩)) | (apply D_R rfl rfl; (intro W hW; (refine AF rfl ?_; (first | refine W_idx1 rfl rfl rfl (by omega) ?_ | refine Bd rfl rfl rfl (by omega) ?_ | refine A1 rfl rfl (by omega) (by omega) ?_)); exact AE ⟨rfl, rfl, rfl⟩))) <;> (first | refine Aa rfl rfl rfl rfl ?_ | (apply D_R rfl rfl; (intro W hW; refine AJ rfl ?_; exact AE ⟨rfl, rfl, rfl⟩)) | (apply D_R rfl rfl; (intro W hW; (refine AF rfl ?_; refine AD rfl ?_); exact AE ⟨rfl, rfl, rfl⟩))) <;> (first | refine Aa rfl rfl rfl rfl ?_ | (apply D_R rfl rfl; (intro W hW; refine AJ rfl ?_; exact AE ⟨rfl, rfl, rfl⟩)) | (apply D_R rfl rfl; (intro W hW; (refine AF rfl ?_; (first | refine AG rfl (Blk.cell (by assumption) (by rfl)) ?_ | refine AG rfl (by assumption) ?_)); exact AE ⟨rfl, rfl, rfl⟩))) <;> (first | refine Aa rfl rfl rfl rfl ?_ | (apply D_R rfl rfl; (intro W hW; refine AJ rfl ?_; exact AE ⟨rfl, rfl, rfl⟩)) | (refine D_sneq rfl rfl rfl rfl (fun hc => ?_) (fun hc => ?_))) <;> (apply D_R rfl rfl; (intro W hW; ((first | refine AL rfl ?_ | refine AQ rfl ?_); (first | refine AB rfl ?_ | refine AU ?_)); exact AE ⟨rfl, rfl, rfl⟩)) <;> refine A3 ?_)
    repeat' first | refine nx rfl ?_ | refine nf rfl ?_
    exact Ap () ⟨rfl, rfl, rfl, rfl, rfl, trivial⟩ kd
   ·obtain ⟨r', hr'⟩ : ∃ r', s.reqs[k - 1]? = some r' := ⟨_, List.getElem?_eq_getElem (by omega)⟩
    have fp0 : ∀ W, Ext wd W → W.cell? ⟨br, or + ((k : Int) - 1).toNat * 8 + 0, none⟩ = some (AM r'.part) := fun W e => by
     rw [show ((k : Int) - 1).toNat = k - 1 by omega]
     exact hprt W (kd.trans e) (k - 1) r' hr'
    ((apply D_R rfl rfl; (intro W hW; (first | refine AI rfl ?_ | refine AU ?_); exact AE ⟨rfl, rfl, rfl⟩)) <;> (refine D_eql rfl rfl rfl rfl (fun hc => ?_) (fun hc => ?_) <;> try omega) <;> (apply D_R rfl rfl; (intro W hW; (first | refine AB rfl ?_ | refine AU ?_); exact AE ⟨rfl, rfl, rfl⟩)) <;> (first | refine Aa rfl rfl rfl rfl ?_ | (apply D_R rfl rfl; (intro W hW; refine AJ rfl ?_; exact AE ⟨rfl, rfl, rfl⟩)) | (apply D_R rfl rfl; (intro W hW; (refine AF rfl ?_; refine AD rfl ?_); exact AE ⟨rfl, rfl, rfl⟩))) <;> (first | refine Aa rfl rfl rfl rfl ?_ | (apply D_R rfl rfl; (intro W hW; refine AJ rfl ?_; exact AE ⟨rfl, rfl, rfl⟩)) | (apply D_R rfl rfl; (intro W hW; (refine AF rfl ?_; (first | refine AG rfl (fsv W hW) ?_ | refine AG rfl (fp0 W hW) ?_ | refine AG rfl (fr0 W hW) ?_ | refine AV rfl (by rfl) (fsv W hW) ?_ | refine AV rfl (by rfl) (fp0 W hW) ?_ | refine AV rfl (by rfl) (fr0 W hW) ?_)); exact AE ⟨rfl, rfl, rfl⟩))) <;> (first | refine Aa rfl rfl rfl rfl ?_ | (apply D_R rfl rfl; (intro W hW; refine AJ rfl ?_; exact AE ⟨rfl, rfl, rfl⟩)) | (apply D_R rfl rfl; (intro W hW; (refine AF rfl ?_; (first | refine AI rfl ?_ | refine AU ?_)); exact AE ⟨rfl, rfl, rfl⟩))) <;> (first | refine Aa rfl rfl rfl rfl ?_ | (apply D_R rfl rfl; (intro W hW; refine AJ rfl ?_; exact AE ⟨rfl, rfl, rfl⟩)) | (apply D_R rfl rfl; (intro W hW; (refine AF rfl ?_; (first | refine W_idx1 rfl rfl rfl (by omega) ?_ | refine Bd rfl rfl rfl (by omega) ?_ | refine A1 rfl rfl (by omega) (by omega) ?_)); exact AE ⟨rfl, rfl, rfl⟩))) <;> (first | refine Aa rfl rfl rfl rfl ?_ | (apply D_R rfl rfl; (intro W hW; refine AJ rfl ?_; exact AE ⟨rfl, rfl, rfl⟩)) | (apply D_R rfl rfl; (intro W hW; (refine AF rfl ?_; refine AD rfl ?_); exact AE ⟨rfl, rfl, rfl⟩))) <;> (first | refine Aa rfl rfl rfl rfl ?_ | (apply D_R rfl rfl; (intro W hW; refine AJ rfl ?_; exact AE ⟨rfl, rfl, rfl⟩)) | (apply D_R rfl rfl; (intro W hW; (refine AF rfl ?_; (first | refine AG rfl (fsv W hW) ?_ | refine AG rfl (fp0 W hW) ?_ | refine AG rfl (fr0 W hW) ?_ | refine AV rfl (by rfl) (fsv W hW) ?_ | refine AV rfl (by rfl) (fp0 W hW) ?_ | refine AV rfl (by rfl) (fr0 W hW) ?_)); exact AE ⟨rfl, rfl, rfl⟩))) <;> (first | refine Aa rfl rfl rfl rfl ?_ | (apply D_R rfl rfl; (intro W hW; refine AJ rfl ?_; exact AE ⟨rfl, rfl, rfl⟩)) | (apply D_R rfl rfl; (intro W hW; (refine AF rfl ?_; refine AD rfl ?_); exact AE ⟨rfl, rfl, rfl⟩))) <;> (first | refine Aa rfl rfl rfl rfl ?_ | (apply D_R rfl rfl; (intro W hW; refine AJ rfl ?_; exact AE ⟨rfl, rfl, rfl⟩)) | (apply D_R rfl rfl; (intro W hW; (refine AF rfl ?_; (first | refine AG rfl (fsv W hW) ?_ | refine AG rfl (fp0 W hW) ?_ | refine AG rfl (fr0 W hW) ?_ | refine AV rfl (by rfl) (fsv W hW) ?_ | refine AV rfl (by rfl) (fp0 W hW) ?_ | refine AV rfl (by rfl) (fr0 W hW) ?_)); exact AE ⟨rfl, rfl, rfl⟩))) <;> (first | refine Aa rfl rfl rfl rfl ?_ | (apply D_R rfl rfl; (intro W hW; refine AJ rfl ?_; exact AE ⟨rfl, rfl, rfl⟩)) | (apply D_R rfl rfl; (intro W hW; (refine AF rfl ?_; (first | refine AI rfl ?_ | refine AU ?_)); exact AE ⟨rfl, rfl, rfl⟩))) <;> (first | refine Aa rfl rfl rfl rfl ?_ | (apply D_R rfl rfl; (intro W hW; refine AJ rfl ?_; exact AE ⟨rfl, rfl, rfl⟩)) | (apply D_R rfl rfl; (intro W hW; (refine AF rfl ?_; refine W_sub rfl rfl (by first | exact Ak (by omega) (by omega) | exact Ar (by omega) (by omega) | exact Aj (by omega) (by omega)) ?_); exact AE ⟨rfl, rfl, rfl⟩))) <;> (first | refine Aa rfl rfl rfl rfl ?_ | (apply D_R rfl rfl; (intro W hW; refine AJ rfl ?_; exact AE ⟨rfl, rfl, rfl⟩)) | (apply D_R rfl rfl; (intro W hW; (refine AF rfl ?_; (first | refine W_idx1 rfl rfl rfl (by omega) ?_ | refine Bd rfl rfl rfl (by omega) ?_ | refine A1 rfl rfl (by omega) (by omega) ?_)); exact AE ⟨rfl, rfl, rfl⟩))) <;> (first | refine Aa rfl rfl rfl rfl ?_ | (apply D_R rfl rfl; (intro W hW; refine AJ rfl ?_; exact AE ⟨rfl, rfl, rfl⟩)) | (apply D_R rfl rfl; (intro W hW; (refine AF rfl ?_; refine AD rfl ?_); exact AE ⟨rfl, rfl, rfl⟩))) <;> (first | refine Aa rfl rfl rfl rfl ?_ | (apply D_R rfl rfl; (intro W hW; refine AJ rfl ?_; exact AE ⟨rfl, rfl, rfl⟩)) | (apply D_R rfl rfl; (intro W hW; (refine AF rfl ?_; (first | refine AG rfl (fsv W hW) ?_ | refine AG rfl (fp0 W hW) ?_ | refine AG rfl (fr0 W hW) ?_ | refine AV rfl (by rfl) (fsv W hW) ?_ | refine AV rfl (by rfl) (fp0 W hW) ?_ | refine AV rfl (by rfl) (fr0 W hW) ?_)); exact AE ⟨rfl, rfl, rfl⟩))) <;> (first | refine Aa rfl rfl rfl rfl ?_ | (apply D_R rfl rfl; (intro W hW; refine AJ rfl ?_; exact AE ⟨rfl, rfl, rfl⟩)) | (refine D_sneq rfl rfl rfl rfl (fun hc => ?_) (fun hc => ?_))) <;> (apply D_R rfl rfl; (intro W hW; ((first | refine AL rfl ?_ | refine AQ rfl ?_); (first | refine AB rfl ?_ | refine AU ?_)); exact AE ⟨rfl, rfl, rfl⟩)) <;> refine A3 ?_)
    ·have ecc : cc = true := by rw [hcc, hr']; simp; exact .inr (fun e => by simp_all)
     subst ecc
     repeat' first | refine nx rfl ?_ | refine nf rfl ?_
     exact Ap () ⟨rfl, rfl, rfl, rfl, rfl, trivial⟩ kd
    ·have ecc : cc = false := by rw [hcc, hr']; simp [hk0]; simp_all
     subst ecc
     repeat' first | refine nx rfl ?_ | refine nf rfl ?_
     exact Ap () ⟨rfl, rfl, rfl, rfl, rfl, trivial⟩ kd
  rintro _ w6 f6 k6
  have kend := k5.trans k6
  clear hcc
  cases cc with
  | true =>
   repeat' first | refine nx rfl ?_ | refine nf rfl ?_
   (refine AA ?_ <;> (first | refine AI rfl ?_ | refine AU ?_) <;> refine BB rfl rfl (by first | exact Ak (by omega) (by omega) | exact Ar (by omega) (by omega) | exact Aj (by omega) (by omega)) ?_ <;> (refine AC ?_; (first | refine AI rfl ?_ | refine AU ?_)))
   repeat' first | refine nx rfl ?_ | refine nf rfl ?_
   (refine AA ?_ <;> (first | refine AI rfl ?_ | refine AU ?_) <;> refine BB rfl rfl (by first | exact Ak (by omega) (by omega) | exact Ar (by omega) (by omega) | exact Aj (by omega) (by omega)) ?_ <;> (refine AC ?_; (first | refine AI rfl ?_ | refine AU ?_)))
   repeat' first | refine nx rfl ?_ | refine nf rfl ?_
   refine ⟨k + 1, ⟨rfl, ⟨rfl, rfl, ?_, ?_, trivial⟩, ⟨hlt, kend⟩⟩, by omega⟩
   ·refine congrArg (Value.int .i64) ?_
    simp at hst
    omega
   ·show Value.int .i64 ((k : Int) + 1) = _
    rw [Int.natCast_add]; rfl
  | false =>
   repeat' first | refine nx rfl ?_ | refine nf rfl ?_
   (refine AA ?_ <;> (first | refine AI rfl ?_ | refine AU ?_) <;> refine BB rfl rfl (by first | exact Ak (by omega) (by omega) | exact Ar (by omega) (by omega) | exact Aj (by omega) (by omega)) ?_ <;> (refine AC ?_; (first | refine AI rfl ?_ | refine AU ?_)))
   repeat' first | refine nx rfl ?_ | refine nf rfl ?_
   refine ⟨k + 1, ⟨rfl, ⟨rfl, rfl, ?_, ?_, trivial⟩, ⟨hlt, kend⟩⟩, by omega⟩
   ·refine congrArg (Value.int .i64) ?_
    simp at hst
    omega
   ·show Value.int .i64 ((k : Int) + 1) = _
    rw [Int.natCast_add]; rfl
 ·(refine AA ?_ <;> (first | refine AI rfl ?_ | refine AU ?_) <;> refine AD rfl ?_ <;> (first | refine AG rfl (Blk.cell (by assumption) (by rfl)) ?_ | refine AG rfl (by assumption) ?_) <;> refine Aq rfl ?_ <;> (refine As rfl rfl (fun hc => ?_) (fun hc => ?_) <;> try omega))
  repeat' first | refine nx rfl ?_ | refine nf rfl ?_
  have e : k = s.reqs.length := by omega
  subst e
  rw [List.take_length] at hsn ⊢
  have hlf := lfs_spc hok
  have hend := end_spc s
  have hnil : s.sigs.length + s.reqs.length + 2 * stN none s.reqs = 0 ↔ spcT s = [] := by
   constructor
   ·intro h
    obtain ⟨l, m⟩ := s
    have h1 : l = [] := List.eq_nil_of_length_eq_zero (by simp only at h; omega)
    have h2 : m = [] := List.eq_nil_of_length_eq_zero (by simp only at h; omega)
    subst h1; subst h2; rfl
   ·intro h
    obtain ⟨h1, h2⟩ := spc_ne h
    rw [h1, h2]; rfl
  have hlen := spcT_len hok
  generalize hW : s.sigs.length + s.reqs.length + 2 * stN none s.reqs = n at hlf hnil
  (refine AA ?_; refine AY rfl (b1.keep k5 (by simp)) rfl ?_)
  refine AS (prtS_ok w5 _ s (spcR.ext hs (k1.trans k5)) (hG.ext (k1.trans k5)) (by omega)) rfl ?_
  rintro _ w6 ⟨rfl, k6⟩
  rw [show sT s = spcT s by unfold sT; rw [if_pos hok]]
  generalize spcT s = tx at hlf hend hnil hlen
  ((refine AC ?_; (first | refine Ab rfl ?_ | refine AU ?_)))
  repeat' first | refine nx rfl ?_ | refine nf rfl ?_
  (refine AA ?_ <;> (refine AC ?_; (first | refine AI rfl ?_ | refine AU ?_)))
  repeat' first | refine nx rfl ?_ | refine nf rfl ?_
  (refine AA ?_ <;> (refine AC ?_; (first | refine AI rfl ?_ | refine AU ?_)))
  repeat' first | refine nx rfl ?_ | refine nf rfl ?_
  refine BC (α := Nat) (fun j => [(3, .bool true), (4, .int .i64 (n : Int)), (6, AM tx), (7, .int .i64 ((lfs (tx.take j) : Nat) : Int)), (8, .int .i64 (j : Int))]) (fun j W => j ≤ tx.length ∧ w6 = W) (fun j => tx.length - j) 0 ⟨rfl, rfl, rfl, congrArg (Value.int .i64) (by simp [lfs]), rfl, trivial⟩ ⟨by simp, rfl⟩ ?_
  rintro j _ f7 ⟨hj, rfl⟩
  repeat' first | refine nx rfl ?_ | refine nf rfl ?_
  have hlj : lfs (tx.take j) ≤ tx.length := by
   unfold lfs
   refine Nat.le_trans List.countP_le_length ?_
   rw [List.length_take]; omega
  by_cases hltj : j < tx.length
  ·(refine AA ?_ <;> (first | refine AI rfl ?_ | refine AU ?_) <;> (first | refine Ab rfl ?_ | refine AU ?_) <;> refine A9 rfl ?_ <;> (refine As rfl rfl (fun hc => ?_) (fun hc => ?_) <;> try omega))
   repeat' first | refine nx rfl ?_ | refine nf rfl ?_
   obtain ⟨x, hx⟩ : ∃ x, tx[j]? = some x := ⟨_, List.getElem?_eq_getElem hltj⟩
   have hnx : lfs (tx.take (j + 1)) = lfs (tx.take j) + lfs [x] := by rw [take_succ_get hx, Ce]
   generalize lfs (tx.take j) = a at hnx hlj
   (refine AA ?_ <;> (first | refine Ab rfl ?_ | refine AU ?_) <;> (first | refine AI rfl ?_ | refine AU ?_) <;> (first | refine BK rfl rfl (by assumption) ?_ | refine BK (j := 0) rfl rfl (by assumption) ?_) <;> (refine AK rfl rfl (fun hc => ?_) (fun hc => ?_) <;> try omega) <;> refine AE ?_)
   ·have hx10 : x = 10 := UInt8.toNat_inj.1 (show x.toNat = 10 by have h0 : (x.toNat : Int) = 10 := (by assumption); omega)
    have e1 : lfs [x] = 1 := by rw [hx10]; rfl
    rw [e1] at hnx
    repeat' first | refine nx rfl ?_ | refine nf rfl ?_
    (refine AA ?_ <;> (first | refine AI rfl ?_ | refine AU ?_) <;> refine BB rfl rfl (by first | exact Ak (by omega) (by omega) | exact Ar (by omega) (by omega) | exact Aj (by omega) (by omega)) ?_ <;> (refine AC ?_; (first | refine AI rfl ?_ | refine AU ?_)))
    repeat' first | refine nx rfl ?_ | refine nf rfl ?_
    (refine AA ?_ <;> (first | refine AI rfl ?_ | refine AU ?_) <;> refine BB rfl rfl (by first | exact Ak (by omega) (by omega) | exact Ar (by omega) (by omega) | exact Aj (by omega) (by omega)) ?_ <;> (refine AC ?_; (first | refine AI rfl ?_ | refine AU ?_)))
    repeat' first | refine nx rfl ?_ | refine nf rfl ?_
    refine ⟨j + 1, ⟨rfl, ⟨rfl, rfl, rfl, ?_, ?_, trivial⟩, ⟨hltj, rfl⟩⟩, by omega⟩
    ·refine congrArg (Value.int .i64) ?_
     omega
    ·show Value.int .i64 ((j : Int) + 1) = _
     rw [Int.natCast_add]; rfl
   ·have hx10 : x ≠ 10 := fun e => by subst e; exact absurd rfl (by assumption)
    have e1 : lfs [x] = 0 := by simp [lfs, hx10]
    rw [e1] at hnx
    repeat' first | refine nx rfl ?_ | refine nf rfl ?_
    (refine AA ?_ <;> (first | refine AI rfl ?_ | refine AU ?_) <;> refine BB rfl rfl (by first | exact Ak (by omega) (by omega) | exact Ar (by omega) (by omega) | exact Aj (by omega) (by omega)) ?_ <;> (refine AC ?_; (first | refine AI rfl ?_ | refine AU ?_)))
    repeat' first | refine nx rfl ?_ | refine nf rfl ?_
    refine ⟨j + 1, ⟨rfl, ⟨rfl, rfl, rfl, ?_, ?_, trivial⟩, ⟨hltj, rfl⟩⟩, by omega⟩
    ·refine congrArg (Value.int .i64) ?_
     omega
    ·show Value.int .i64 ((j : Int) + 1) = _
     rw [Int.natCast_add]; rfl
  ·(refine AA ?_ <;> (first | refine AI rfl ?_ | refine AU ?_) <;> (first | refine Ab rfl ?_ | refine AU ?_) <;> refine A9 rfl ?_ <;> (refine As rfl rfl (fun hc => ?_) (fun hc => ?_) <;> try omega))
   repeat' first | refine nx rfl ?_ | refine nf rfl ?_
   have e : j = tx.length := by omega
   subst e
   rw [List.take_length, hlf]
   have kend := k1.trans (k5.trans k6)
   by_cases hn0 : n = 0
   ·have ht := hnil.1 hn0
    subst hn0; subst ht
    (refine AA ?_ <;> (first | refine AB rfl ?_ | refine AU ?_) <;> (first | refine AB rfl ?_ | refine AU ?_) <;> (first | refine AJ rfl ?_ | (refine AF rfl ?_; (first | refine AI rfl ?_ | refine AU ?_))) <;> (first | refine AJ rfl ?_ | (refine AF rfl ?_; (first | refine AI rfl ?_ | refine AU ?_))) <;> (first | refine AJ rfl ?_ | (refine AF rfl ?_; (refine AK rfl rfl (fun hc => ?_) (fun hc => ?_) <;> try omega))) <;> ((first | refine AL rfl ?_ | refine AQ rfl ?_); (first | refine AB rfl ?_ | refine AU ?_)) <;> (first | refine AB rfl ?_ | refine AU ?_) <;> (first | refine AJ rfl ?_ | (refine AF rfl ?_; (first | refine AI rfl ?_ | refine AU ?_))) <;> (first | refine AJ rfl ?_ | (refine AF rfl ?_; (refine AK rfl rfl (fun hc => ?_) (fun hc => ?_) <;> try omega))) <;> (first | refine AJ rfl ?_ | (refine AF rfl ?_; (first | refine Ab rfl ?_ | refine AU ?_))) <;> (first | refine AJ rfl ?_ | (refine AF rfl ?_; refine Bu rfl rfl (fun hc => ?_) (fun hc => ?_))) <;> (first | refine AJ rfl ?_ | (refine AF rfl ?_; refine W_beql rfl rfl ?_)) <;> ((first | refine AL rfl ?_ | refine AQ rfl ?_); (first | refine AB rfl ?_ | refine AU ?_)) <;> (first | refine AB rfl ?_ | refine AU ?_) <;> (first | refine AJ rfl ?_ | (refine AF rfl ?_; (first | refine AI rfl ?_ | refine AU ?_))) <;> (first | refine AJ rfl ?_ | (refine AF rfl ?_; (refine AK rfl rfl (fun hc => ?_) (fun hc => ?_) <;> try omega))) <;> (first | refine AJ rfl ?_ | (refine AF rfl ?_; (first | refine AB rfl ?_ | refine AU ?_))) <;> (first | refine AJ rfl ?_ | (refine AF rfl ?_; (first | refine Ab rfl ?_ | refine AU ?_))) <;> (first | refine AJ rfl ?_ | (refine AF rfl ?_; (first | refine Ab rfl ?_ | refine AU ?_))))
    all_goals try (exact absurd rfl (by assumption))
    ((first | refine AJ rfl ?_ | (refine AF rfl ?_; refine A9 rfl ?_)) <;> (first | refine AJ rfl ?_ | (refine AF rfl ?_; refine W_sub rfl rfl (by first | exact Ak (by omega) (by omega) | exact Ar (by omega) (by omega) | exact Aj (by omega) (by omega)) ?_)) <;> (first | refine AJ rfl ?_ | (refine AF rfl ?_; (first | refine BK rfl rfl (by assumption) ?_ | refine BK (j := 0) rfl rfl (by assumption) ?_))) <;> (first | refine AJ rfl ?_ | (refine AF rfl ?_; (refine AK rfl rfl (fun hc => ?_) (fun hc => ?_) <;> try omega))) <;> (first | refine AJ rfl ?_ | (refine AF rfl ?_; ((first | refine AL rfl ?_ | refine AQ rfl ?_); (first | refine AB rfl ?_ | refine AU ?_)))) <;> ((first | refine AL rfl ?_ | refine AQ rfl ?_); (first | refine AB rfl ?_ | refine AU ?_)) <;> (refine AC ?_; (first | refine AB rfl ?_ | refine AU ?_)))
    repeat' first | refine nx rfl ?_ | refine nf rfl ?_
    exact AP rfl ⟨rfl, kend⟩
   ·have ht : tx ≠ [] := fun e => hn0 (hnil.2 e)
    have hl := hend.resolve_left ht
    have hpos := List.length_pos_iff.2 ht
    have hlast : tx[tx.length - 1]? = some 10 := by rw [← List.getLast?_eq_getElem?]; exact hl
    (refine AA ?_ <;> (first | refine AB rfl ?_ | refine AU ?_) <;> (first | refine AB rfl ?_ | refine AU ?_) <;> (first | refine AJ rfl ?_ | (refine AF rfl ?_; (first | refine AI rfl ?_ | refine AU ?_))) <;> (first | refine AJ rfl ?_ | (refine AF rfl ?_; (first | refine AI rfl ?_ | refine AU ?_))) <;> (first | refine AJ rfl ?_ | (refine AF rfl ?_; (refine AK rfl rfl (fun hc => ?_) (fun hc => ?_) <;> try omega))) <;> ((first | refine AL rfl ?_ | refine AQ rfl ?_); (first | refine AB rfl ?_ | refine AU ?_)) <;> (first | refine AB rfl ?_ | refine AU ?_) <;> (first | refine AJ rfl ?_ | (refine AF rfl ?_; (first | refine AI rfl ?_ | refine AU ?_))) <;> (first | refine AJ rfl ?_ | (refine AF rfl ?_; (refine AK rfl rfl (fun hc => ?_) (fun hc => ?_) <;> try omega))) <;> (first | refine AJ rfl ?_ | (refine AF rfl ?_; (first | refine Ab rfl ?_ | refine AU ?_))))
    (refine AF rfl ?_; refine Bu rfl rfl (fun hc => ?_) (fun hc => ?_))
    ·exact absurd hc ht
    ((first | refine AJ rfl ?_ | (refine AF rfl ?_; refine W_beql rfl rfl ?_)) <;> ((first | refine AL rfl ?_ | refine AQ rfl ?_); (first | refine AB rfl ?_ | refine AU ?_)) <;> (first | refine AB rfl ?_ | refine AU ?_) <;> (first | refine AJ rfl ?_ | (refine AF rfl ?_; (first | refine AI rfl ?_ | refine AU ?_))) <;> (first | refine AJ rfl ?_ | (refine AF rfl ?_; (refine AK rfl rfl (fun hc => ?_) (fun hc => ?_) <;> try omega))) <;> (first | refine AJ rfl ?_ | (refine AF rfl ?_; (first | refine AB rfl ?_ | refine AU ?_))) <;> (first | refine AJ rfl ?_ | (refine AF rfl ?_; (first | refine Ab rfl ?_ | refine AU ?_))) <;> (first | refine AJ rfl ?_ | (refine AF rfl ?_; (first | refine Ab rfl ?_ | refine AU ?_))) <;> (first | refine AJ rfl ?_ | (refine AF rfl ?_; refine A9 rfl ?_)) <;> (first | refine AJ rfl ?_ | (refine AF rfl ?_; refine W_sub rfl rfl (by first | exact Ak (by omega) (by omega) | exact Ar (by omega) (by omega) | exact Aj (by omega) (by omega)) ?_)))
    (refine AF rfl ?_; refine BK (j := tx.length - 1) rfl (congrArg (Value.int .i64) (by omega)) hlast ?_)
    ((first | refine AJ rfl ?_ | (refine AF rfl ?_; (refine AK rfl rfl (fun hc => ?_) (fun hc => ?_) <;> try omega))) <;> (first | refine AJ rfl ?_ | (refine AF rfl ?_; ((first | refine AL rfl ?_ | refine AQ rfl ?_); (first | refine AB rfl ?_ | refine AU ?_)))) <;> ((first | refine AL rfl ?_ | refine AQ rfl ?_); (first | refine AB rfl ?_ | refine AU ?_)) <;> (refine AC ?_; (first | refine AB rfl ?_ | refine AU ?_)))
    ·repeat' first | refine nx rfl ?_ | refine nf rfl ?_
     exact AP rfl ⟨rfl, kend⟩
    ·exact absurd rfl (by assumption)
end Go.Proofs.YtfcgdbmoncnibaaGreatDoor
namespace Go.Proofs.YtfcgdbmoncnibaaGreatDoor
open Go.ChangeShapes Go.WideShapes Go.ChangeAt Go.RowKit
open Go.ChangeMaps (open_string)
section
variable {H : Type} {enc : TypeId × Value → H} {P : Program} {W W' : World}
theorem sameAt_ext (he : Ext W W') {p : MemPlace} (hp : p.block < W.heap.size) : W.sameAt W' p := by
 cases p with
 | cell b off => exact World.cell?_of_block (w := W) (a := ⟨b, off, none⟩) (he.block b hp (by simp))
 | map b => exact he.block b hp (by simp)
theorem trodAll_ext (K : Kids P (· < P.types.size)) (hz : ∀ t e, t < P.types.size → P.underlying t = some (.slice e) → 0 < P.cellsOf e) (he : Ext W W') {sp : Nat → Bool} :
  ∀ {ts : List TypeId} {vs : List Value} {ds : List (DataW H)} {ps : List MemPlace}, (∀ t ∈ ts, t < P.types.size) → DataW.TrodAll enc P W 0 (fun _ => true) true ts vs ds ps →
   (∀ p ∈ ps, p.block < W.heap.size) → (∀ p ∈ ps, sp p.block = true) → DataW.TrodAll enc P W' 0 sp true ts vs ds ps
 | [], [], [], _, _, h, _, _ => h
 | _ :: _, _ :: _, _ :: _, _, hT, ⟨p, q, ⟨n, h1⟩, h2, e⟩, hl, hs => by
  subst e
  refine ⟨p, q, ⟨n, DataW.trod_stays K (fun ht hu => hz _ _ ht hu) (fun h => by cases h) (hT _ (by simp)) h1 (fun x hx => sameAt_ext he (hl x (List.mem_append_left _ hx))) fun x hx => hs x (List.mem_append_left _ hx)⟩, ?_, rfl⟩
  exact trodAll_ext K hz he (fun t ht => hT t (List.mem_cons_of_mem _ ht)) h2 (fun x hx => hl x (List.mem_append_right _ hx)) fun x hx => hs x (List.mem_append_right _ hx)
theorem keptBut_ext (he : Ext W W') (may : MemPlace → Prop) : W.keptBut W' may := by
 refine ⟨he.os, he.output, fun i hi => ?_⟩
 rw [he.block i hi (by simp)]
 exact (World.keptBut_refl W may).2.2 i hi
theorem post_of_ext (K : Kids P (· < P.types.size)) (hz : ∀ t e, t < P.types.size → P.underlying t = some (.slice e) → 0 < P.cellsOf e) {f : Func} {s : ChangeSpec} {apart fresh handsOn : Bool} {args : Array Value} {v : Value} {ds gs : List (DataW H)} {before : List MemPlace} {tb : TypeId}
  (hts : ∀ t ∈ f.params.toList, t < P.types.size) (hs : s.vars = []) (hW : DataW.Whole enc P f.params.toList s.vars apart W args.toList ds gs before)
  (hfn : s.fn H (ds ++ gs) = { results := [.lit (.bool true)], args := ds }) (hrt : f.resultTypes = #[tb]) (htb : P.underlying tb = some .bool) (hv : v = .bool true) (he : Ext W W') :
  s.post enc P f apart fresh handsOn false W args v W' := by
 subst hv
 have hlt : ∀ p ∈ before, p.block < W.heap.size := hW.lt
 obtain ⟨p, q, hA, hV, rfl, hf, hn⟩ := id hW
 have hq : gs = [] ∧ q = [] := by
  rw [hs] at hV
  cases gs with
  | nil => exact ⟨rfl, hV⟩
  | cons _ _ => exact hV.elim
 obtain ⟨rfl, rfl⟩ := hq
 refine ⟨ds, [], _, [], p, [], hW, ?_, ?_, ?_, keptBut_ext he _, (fun h => by cases h)⟩
 ·rw [hfn, hrt]
  exact trodAll_cons_mk (shut_bool htb true) trodAll_mk0
 ·rw [hfn]
  exact trodAll_ext K hz he hts hA (fun x hx => hlt x (List.mem_append_left _ hx)) fun x hx => by simpa using hlt x (List.mem_append_left _ hx)
 ·rw [hfn, hs]; exact rfl
end
theorem kids : Kids Tryz.prog (· < Tryz.prog.types.size) := kids_rows (by kernel_rfl) (by kernel_rfl)
theorem full : ∀ t e, t < Tryz.prog.types.size → Tryz.prog.underlying t = some (.slice e) → 0 < Tryz.prog.cellsOf e := slices_full_of Tryz.prog (by kernel_rfl)
theorem own : ownKnob Tryz.prog.godebug = none := by kernel_rfl
section
variable {H : Type} {enc : TypeId × Value → H} {P : Program} {W : World} {sp : Nat → Bool} {hd : Bool}
theorem spot_none {a : Addr} {v : Value} (h : W.cell? a = some v) : a.spot = none := by
 cases ha : a.spot with
 | none => rfl
 | some _ =>
  unfold World.cell? at h
  split at h
  ·simp [ha] at h
  ·cases h
end
end Go.Proofs.YtfcgdbmoncnibaaGreatDoor
namespace Go.Proofs.YtfcgdbmoncnibaaGreatDoor
open Go.ChangeShapes Go.WideShapes Go.ChangeAt Go.RowKit
set_option linter.unusedVariables false
theorem lenF {cs : List Value} (h : cs.length = 5) : ∃ c0 c1 c2 c3 c4, cs = [c0, c1, c2, c3, c4] := by
 match cs, h with
 | [a, b, c, d, e], _ => exact ⟨a, b, c, d, e, rfl⟩
theorem lenR {cs : List Value} (h : cs.length = 8) : ∃ c0 c1 c2 d, cs = c0 :: c1 :: c2 :: d ∧ d.length = 5 := by
 match cs, h with
 | a :: b :: c :: d, h => exact ⟨a, b, c, d, rfl, by simpa using h⟩
theorem lenG {cs : List Value} (h : cs.length = 3) : ∃ c0 c1 c2, cs = [c0, c1, c2] := by
 match cs, h with
 | [a, b, c], _ => exact ⟨a, b, c, rfl⟩
theorem lenS {cs : List Value} (h : cs.length = 2) : ∃ c0 c1, cs = [c0, c1] := by
 match cs, h with
 | [a, b], _ => exact ⟨a, b, rfl⟩
theorem cell_eq {w : World} {b i j : Nat} (h : i = j) : w.cell? ⟨b, i, none⟩ = w.cell? ⟨b, j, none⟩ := by rw [h]
section
variable {H : Type} {enc : TypeId × Value → H} {W : World} {sp : Nat → Bool} {hd : Bool}
theorem open_rows {α : Type} [Inhabited α] {t e : TypeId} {c fuel : Nat} {cs : List Value} {x : DataW H × List MemPlace} (Q : List Value → α → Prop) (ht : Tryz.prog.underlying t = some (.slice e)) (hc : Tryz.prog.cellsOf e = c) (h0 : 0 < c)
  (hQ : ∀ (n : Nat) (cs : List Value) (x : DataW H × List MemPlace), n < fuel → DataW.trod enc Tryz.prog W 0 sp hd n e cs = some x → ∃ a, Q cs a) (h : DataW.trod enc Tryz.prog W 0 sp hd fuel t cs = some x) :
  ∃ (a : Option Addr) (k : Nat) (L : List (List Value)) (l : List α), cs = [.slice a l.length k] ∧ Sl A2 W (.slice a l.length k) l.length L.flatten ∧ L.length = l.length ∧ (∀ d ∈ L, d.length = c) ∧ ∀ (i : Nat) (d : List Value) (a : α), L[i]? = some d → l[i]? = some a → Q d a := by
 rcases DataW.trod_slice ht h with ⟨rfl, _⟩ | ⟨a, len, cap, elems, rest, n, rfl, rfl, _, _, hl, hm, hlen, hel, _, _⟩
 ·exact ⟨none, 0, [], [], rfl, ⟨none, 0, rfl, Nat.le_refl _, by omega, fun _ => rfl, .inl rfl⟩, rfl, (fun d hd => by cases hd), fun i d a h => by simp at h⟩
 ·rw [hc] at hel
  obtain ⟨D, hD⟩ := Deep.choose_lt (α := List Value × α) (n := len) (p := fun i q => W.cells? 0 (a.add (i * c)) c = some q.1 ∧ Q q.1 q.2) (fun i hi => by
   have h1 := hel i hi
   rw [List.getElem?_eq_getElem (by omega)] at h1
   obtain ⟨cs', h2, h3⟩ := Option.bind_eq_some_iff.1 h1
   obtain ⟨b, hb⟩ := hQ n cs' _ (Nat.lt_succ_self n) h3
   exact ⟨(cs', b), h2, hb⟩)
  have hlen' : ∀ i, i < len → (D i).1.length = c := fun i hi => (World.cells?_some (hD i hi).1).2.1
  have hrow : ∀ d ∈ ((List.range len).map fun i => (D i).1), d.length = c := by
   intro d hd
   obtain ⟨i, hi, rfl⟩ := List.mem_map.1 hd
   exact hlen' i (List.mem_range.1 hi)
  have hll : ((List.range len).map fun i => (D i).2).length = len := by simp
  refine ⟨some a, cap, (List.range len).map fun i => (D i).1, (List.range len).map fun i => (D i).2, by rw [hll], ⟨some a, cap, rfl, by omega, by simp only [maxLen] at hm; omega, (fun h => by cases h), ?_⟩, by simp, hrow, ?_⟩
  ·by_cases hz : len = 0
   ·left; omega
   ·right
    have hc0 := (World.cells?_some (hD 0 (by omega)).1).2.2 0 h0
    have hs : a.spot = none := by
     have hd0 := hlen' 0 (by omega)
     rw [List.getElem?_eq_getElem (by omega)] at hc0
     have := spot_none hc0
     simpa [Addr.add] using this
    obtain ⟨b, off, s⟩ := a
    simp only at hs
    subst hs
    refine ⟨b, off, rfl, trivial, fun i u hu => ?_⟩
    have hlt := (List.getElem?_eq_some_iff.1 hu).1
    rw [flat_len c _ hrow] at hlt
    simp only [List.length_map, List.length_range] at hlt
    have hk : i / c < len := (Nat.div_lt_iff_lt_mul h0).2 hlt
    have hj : i % c < c := Nat.mod_lt _ h0
    have hrk : ((List.range len).map fun i => (D i).1)[i / c]? = some (D (i / c)).1 := by
     rw [List.getElem?_map, List.getElem?_range hk]; rfl
    have hdk := hlen' _ hk
    have hv : (D (i / c)).1[i % c]? = some (D (i / c)).1[i % c] := List.getElem?_eq_getElem (by omega)
    have h1 := Cv c _ _ _ _ _ hrow hrk hv
    have hi : i / c * c + i % c = i := by rw [Nat.mul_comm]; exact Nat.div_add_mod i c
    rw [hi] at h1
    have h2 := (World.cells?_some (hD _ hk).1).2.2 (i % c) hj
    rw [Addr.add_lit, Addr.add_lit, hv] at h2
    have e : u = (D (i / c)).1[i % c] := Option.some.inj (hu.symm.trans h1)
    rw [e, ← h2]
    exact cell_eq (by omega)
  ·intro i d b hd hb
   obtain ⟨h1, rfl⟩ := List.getElem?_eq_some_iff.1 hd
   obtain ⟨_, rfl⟩ := List.getElem?_eq_some_iff.1 hb
   simp at h1
   simp only [List.getElem_map, List.getElem_range]
   exact (hD i (by omega)).2
theorem cellF : Tryz.prog.cellsOf 24 = 5 := by kernel_rfl
theorem cellR : Tryz.prog.cellsOf 30 = 8 := by kernel_rfl
theorem cellS : Tryz.prog.cellsOf 28 = 2 := by kernel_rfl
theorem cellSg : Tryz.prog.cellsOf 72 = 3 := by kernel_rfl
theorem cellI : Tryz.prog.cellsOf 3 = 1 := by kernel_rfl
theorem cellB : Tryz.prog.cellsOf 4 = 1 := by kernel_rfl
theorem cellSt : Tryz.prog.cellsOf 9 = 1 := by kernel_rfl
theorem cellFs : Tryz.prog.cellsOf 22 = 1 := by kernel_rfl
theorem cellSgs : Tryz.prog.cellsOf 25 = 1 := by kernel_rfl
theorem cellRs : Tryz.prog.cellsOf 26 = 1 := by kernel_rfl
theorem strV_toList (s : ByteArray) : Value.string s = AM s.data.toList := by simp [AM]
theorem BS {β : Type} {xs : List β} {n i : Nat} (h : xs.length = n) (hi : i < n) : ∃ y, xs[i]? = some y := ⟨_, List.getElem?_eq_getElem (by omega)⟩
theorem open_fml : ∀ (fuel : Nat) (cs : List Value) (x : DataW H × List MemPlace), DataW.trod enc Tryz.prog W 0 sp hd fuel 24 cs = some x → ∃ f : Fml, fmlR.fits A2 W cs f := by
 intro fuel
 induction fuel using Nat.strongRecOn with
 | ind fuel ih =>
 intro cs x h
 obtain ⟨xs, n, rfl, _, hl, hxl, hf⟩ := DataW.trod_struct Tryz.underlying24 h
 rw [cellF] at hl
 obtain ⟨c0, c1, c2, c3, c4, rfl⟩ := lenF hl
 have hx5 : xs.length = 5 := hxl
 have f0 : DataW.trod enc Tryz.prog W 0 sp hd n 3 ((List.drop 0 [c0, c1, c2, c3, c4]).take (Tryz.prog.cellsOf 3)) = xs[0]? := hf 0 _ rfl
 have f1 : DataW.trod enc Tryz.prog W 0 sp hd n 9 ((List.drop 1 [c0, c1, c2, c3, c4]).take (Tryz.prog.cellsOf 9)) = xs[1]? := hf 1 _ rfl
 have f2 : DataW.trod enc Tryz.prog W 0 sp hd n 3 ((List.drop 2 [c0, c1, c2, c3, c4]).take (Tryz.prog.cellsOf 3)) = xs[2]? := hf 2 _ rfl
 have f3 : DataW.trod enc Tryz.prog W 0 sp hd n 3 ((List.drop 3 [c0, c1, c2, c3, c4]).take (Tryz.prog.cellsOf 3)) = xs[3]? := hf 3 _ rfl
 have f4 : DataW.trod enc Tryz.prog W 0 sp hd n 22 ((List.drop 4 [c0, c1, c2, c3, c4]).take (Tryz.prog.cellsOf 22)) = xs[4]? := hf 4 _ rfl
 rw [cellI] at f0 f2 f3
 rw [cellSt] at f1
 rw [cellFs] at f4
 obtain ⟨y0, g0⟩ := BS (i := 0) hx5 (by omega)
 obtain ⟨y1, g1⟩ := BS (i := 1) hx5 (by omega)
 obtain ⟨y2, g2⟩ := BS (i := 2) hx5 (by omega)
 obtain ⟨y3, g3⟩ := BS (i := 3) hx5 (by omega)
 obtain ⟨y4, g4⟩ := BS (i := 4) hx5 (by omega)
 obtain ⟨op, e0, _, _⟩ := DataW.trod_int Tryz.underlying3 (f0.trans g0)
 obtain ⟨s, e1, _, _⟩ := DataW.trod_string Tryz.underlying9 (f1.trans g1)
 obtain ⟨v, e2, _, _⟩ := DataW.trod_int Tryz.underlying3 (f2.trans g2)
 obtain ⟨b, e3, _, _⟩ := DataW.trod_int Tryz.underlying3 (f3.trans g3)
 have : Inhabited Fml := ⟨zeroF⟩
 obtain ⟨a, k, L, l, e4, hS, hL, h5, hA⟩ := open_rows (fun d g => fmlR.fits A2 W d g) Tryz.underlying22 cellF (by omega) (fun m cs x hm hx => ih m (by omega) cs x hx) (f4.trans g4)
 have e0' : c0 = .int .i64 op := by simpa using e0
 have e1' : c1 = AM s.data.toList := by rw [← strV_toList]; simpa using e1
 have e2' : c2 = .int .i64 v := by simpa using e2
 have e3' : c3 = .int .i64 b := by simpa using e3
 have e4' : c4 = .slice a l.length k := by simpa using e4
 subst e0' e1' e2' e3' e4'
 exact ⟨⟨op, s.data.toList, v, b, l⟩, rfl, .mk op _ v b l _ L hS hL h5 fun i c g hc hg => (hA i c g hc hg).2⟩
theorem open_req {fuel : Nat} {cs : List Value} {x : DataW H × List MemPlace} (h : DataW.trod enc Tryz.prog W 0 sp hd fuel 30 cs = some x) : ∃ r : Rqm, reqR.fits A2 W cs r := by
 obtain ⟨xs, n, rfl, _, hl, hxl, hf⟩ := DataW.trod_struct Tryz.underlying30 h
 rw [cellR] at hl
 obtain ⟨c0, c1, c2, d, rfl, hd5⟩ := lenR hl
 have hx4 : xs.length = 4 := hxl
 have f0 : DataW.trod enc Tryz.prog W 0 sp hd n 9 ((List.drop 0 (c0 :: c1 :: c2 :: d)).take (Tryz.prog.cellsOf 9)) = xs[0]? := hf 0 _ rfl
 have f1 : DataW.trod enc Tryz.prog W 0 sp hd n 9 ((List.drop 1 (c0 :: c1 :: c2 :: d)).take (Tryz.prog.cellsOf 9)) = xs[1]? := hf 1 _ rfl
 have f2 : DataW.trod enc Tryz.prog W 0 sp hd n 3 ((List.drop 2 (c0 :: c1 :: c2 :: d)).take (Tryz.prog.cellsOf 3)) = xs[2]? := hf 2 _ rfl
 have f3 : DataW.trod enc Tryz.prog W 0 sp hd n 24 ((List.drop 3 (c0 :: c1 :: c2 :: d)).take (Tryz.prog.cellsOf 24)) = xs[3]? := hf 3 _ rfl
 rw [cellI] at f2
 rw [cellSt] at f0 f1
 rw [cellF] at f3
 obtain ⟨y0, g0⟩ := BS (i := 0) hx4 (by omega)
 obtain ⟨y1, g1⟩ := BS (i := 1) hx4 (by omega)
 obtain ⟨y2, g2⟩ := BS (i := 2) hx4 (by omega)
 obtain ⟨y3, g3⟩ := BS (i := 3) hx4 (by omega)
 obtain ⟨s, e0, _, _⟩ := DataW.trod_string Tryz.underlying9 (f0.trans g0)
 obtain ⟨t, e1, _, _⟩ := DataW.trod_string Tryz.underlying9 (f1.trans g1)
 obtain ⟨k, e2, _, _⟩ := DataW.trod_int Tryz.underlying3 (f2.trans g2)
 obtain ⟨f, hF⟩ := open_fml _ _ _ (f3.trans g3)
 have e0' : c0 = AM s.data.toList := by rw [← strV_toList]; simpa using e0
 have e1' : c1 = AM t.data.toList := by rw [← strV_toList]; simpa using e1
 have e2' : c2 = .int .i64 k := by simpa using e2
 have e3 : (List.drop 3 (c0 :: c1 :: c2 :: d)).take 5 = d := by simp [← hd5]
 rw [e3] at hF
 subst e0' e1' e2'
 exact ⟨⟨s.data.toList, t.data.toList, k, f⟩, d, rfl, hd5, hF.2⟩
theorem open_sgn {fuel : Nat} {cs : List Value} {x : DataW H × List MemPlace} (h : DataW.trod enc Tryz.prog W 0 sp hd fuel 72 cs = some x) : ∃ r : Sgn, sgnR.fits A2 W cs r := by
 obtain ⟨xs, n, rfl, _, hl, hxl, hf⟩ := DataW.trod_struct Tryz.underlying72 h
 rw [cellSg] at hl
 obtain ⟨c0, c1, c2, rfl⟩ := lenG hl
 have hx3 : xs.length = 3 := hxl
 have f0 : DataW.trod enc Tryz.prog W 0 sp hd n 9 ((List.drop 0 [c0, c1, c2]).take (Tryz.prog.cellsOf 9)) = xs[0]? := hf 0 _ rfl
 have f1 : DataW.trod enc Tryz.prog W 0 sp hd n 4 ((List.drop 1 [c0, c1, c2]).take (Tryz.prog.cellsOf 4)) = xs[1]? := hf 1 _ rfl
 have f2 : DataW.trod enc Tryz.prog W 0 sp hd n 3 ((List.drop 2 [c0, c1, c2]).take (Tryz.prog.cellsOf 3)) = xs[2]? := hf 2 _ rfl
 rw [cellI] at f2
 rw [cellSt] at f0
 rw [cellB] at f1
 obtain ⟨y0, g0⟩ := BS (i := 0) hx3 (by omega)
 obtain ⟨y1, g1⟩ := BS (i := 1) hx3 (by omega)
 obtain ⟨y2, g2⟩ := BS (i := 2) hx3 (by omega)
 obtain ⟨s, e0, _, _⟩ := DataW.trod_string Tryz.underlying9 (f0.trans g0)
 obtain ⟨t, e1, _, _⟩ := DataW.trod_bool Tryz.underlying4 (f1.trans g1)
 obtain ⟨k, e2, _, _⟩ := DataW.trod_int Tryz.underlying3 (f2.trans g2)
 have e0' : c0 = AM s.data.toList := by rw [← strV_toList]; simpa using e0
 have e1' : c1 = .bool t := by simpa using e1
 have e2' : c2 = .int .i64 k := by simpa using e2
 subst e0' e1' e2'
 exact ⟨⟨s.data.toList, t, k⟩, rfl⟩
theorem open_sgns {fuel : Nat} {cs : List Value} {x : DataW H × List MemPlace} (h : DataW.trod enc Tryz.prog W 0 sp hd fuel 25 cs = some x) : ∃ (v : Value) (l : List Sgn), cs = [v] ∧ SlAt sgnR A2 W v l := by
 have : Inhabited Sgn := ⟨⟨[], false, 0⟩⟩
 obtain ⟨a, k, L, l, e, hS, hL, _, hA⟩ := open_rows (fun d g => sgnR.fits A2 W d g) Tryz.underlying25 cellSg (by omega) (fun m cs x _ hx => open_sgn hx) h
 exact ⟨_, l, e, a, k, L, rfl, hS, hL, hA⟩
theorem open_reqs {fuel : Nat} {cs : List Value} {x : DataW H × List MemPlace} (h : DataW.trod enc Tryz.prog W 0 sp hd fuel 26 cs = some x) : ∃ (v : Value) (l : List Rqm), cs = [v] ∧ SlAt reqR A2 W v l := by
 have : Inhabited Rqm := ⟨⟨[], [], 0, zeroF⟩⟩
 obtain ⟨a, k, L, l, e, hS, hL, _, hA⟩ := open_rows (fun d g => reqR.fits A2 W d g) Tryz.underlying26 cellR (by omega) (fun m cs x _ hx => open_req hx) h
 exact ⟨_, l, e, a, k, L, rfl, hS, hL, hA⟩
theorem open_spc {fuel : Nat} {cs : List Value} {x : DataW H × List MemPlace} (h : DataW.trod enc Tryz.prog W 0 sp hd fuel 28 cs = some x) : ∃ s : Spc, spcR.fits A2 W cs s := by
 obtain ⟨xs, n, rfl, _, hl, hxl, hf⟩ := DataW.trod_struct Tryz.underlying28 h
 rw [cellS] at hl
 obtain ⟨c0, c1, rfl⟩ := lenS hl
 have hx2 : xs.length = 2 := hxl
 have f0 : DataW.trod enc Tryz.prog W 0 sp hd n 25 ((List.drop 0 [c0, c1]).take (Tryz.prog.cellsOf 25)) = xs[0]? := hf 0 _ rfl
 have f1 : DataW.trod enc Tryz.prog W 0 sp hd n 26 ((List.drop 1 [c0, c1]).take (Tryz.prog.cellsOf 26)) = xs[1]? := hf 1 _ rfl
 rw [cellSgs] at f0
 rw [cellRs] at f1
 obtain ⟨y0, g0⟩ := BS (i := 0) hx2 (by omega)
 obtain ⟨y1, g1⟩ := BS (i := 1) hx2 (by omega)
 obtain ⟨v0, l0, e0, h0⟩ := open_sgns (f0.trans g0)
 obtain ⟨v1, l1, e1, h1⟩ := open_reqs (f1.trans g1)
 have e0' : c0 = v0 := by simpa using e0
 have e1' : c1 = v1 := by simpa using e1
 subst e0' e1'
 exact ⟨⟨l0, l1⟩, c0, c1, rfl, h0, h1⟩
end
set_option maxRecDepth 100000 in
theorem val_struct {W : World} {r : Reach} {t : TypeId} {fs : Array Field} {v : Value} {b : Nat} (ht : Tryz.prog.underlying t = some (.struct fs)) (hval : Value.okWide Tryz.prog W r b t v) : v = .agg v.cells := by
 obtain ⟨cs, rfl, _⟩ := okWide_struct ht hval
 rfl
section
variable {H : Type} {enc : TypeId × Value → H} {W : World} {sp : Nat → Bool} {hd : Bool} {r : Reach} {b : Nat} {v : Value} {x : DataW H × List MemPlace}
set_option maxRecDepth 100000 in
theorem arg_spc (hval : Value.okWide Tryz.prog W r b 28 v) (h : ∃ n, DataW.trod enc Tryz.prog W 0 sp hd n 28 v.cells.toList = some x) : ∃ (c : List Value) (s : Spc), v = .agg c.toArray ∧ spcR.fits A2 W c s := by
 obtain ⟨n, h⟩ := h
 obtain ⟨s, hs⟩ := open_spc h
 exact ⟨_, s, by rw [Array.toArray_toList]; exact val_struct Tryz.underlying28 hval, hs⟩
end
end Go.Proofs.YtfcgdbmoncnibaaGreatDoor
