/- The truth of formulas on infinite words, plain; words that repeat themselves. Residuals, plain: what is left of a formula after a letter is true of the rest of the word. The canonical form, plain: the order of formulas, lists without repetitions, truth. The order of formulas: two nodes compared, walked. The order of formulas: lists of formulas in memory; the stack of Compare. The order of formulas: the stack of Compare. The order of formulas: Compare walked. The lexer's laws: gaps. The reference lexer: kinds of bytes, symbols, the next token. The reference lexer: the next token. The reference lexer: all tokens. The printer's laws: texts too long for the lexer; what is parsed of a text that was printed. The printer's laws, plain: the texts of the arguments in the text of a formula. PrinterParts walked. A law's close: what the walk gives, as the row wants it; the common part. Conditions: none. -/
import Derived.Test.YtfcgdbmoncnibaaGreatDoorZG13
import Derived.Test.YtfcgdbmoncnibaaGreatDoorShc
import Derived.WalkKit
import Derived.ProofKit
import Derived.OpenShut
import Derived.JoinedCond
import Derived.ChangeStays
import Derived.ReadAgain
import Derived.Deep.Slices

namespace Go.Proofs.YtfcgdbmoncnibaaGreatDoor
set_option linter.unusedVariables false
variable {mk : Prop} [MK mk]
end Go.Proofs.YtfcgdbmoncnibaaGreatDoor
namespace Go.Proofs.YtfcgdbmoncnibaaGreatDoor
set_option linter.unusedVariables false
variable {mk : Prop} [MK mk]
end Go.Proofs.YtfcgdbmoncnibaaGreatDoor
namespace Go.Proofs.YtfcgdbmoncnibaaGreatDoor
set_option linter.unusedVariables false
variable {mk : Prop} [MK mk]
end Go.Proofs.YtfcgdbmoncnibaaGreatDoor
namespace Go.Proofs.YtfcgdbmoncnibaaGreatDoor
open Go.RowKit
set_option linter.unusedVariables false
variable {mk : Prop} [MK mk]
end Go.Proofs.YtfcgdbmoncnibaaGreatDoor
namespace Go.Proofs.YtfcgdbmoncnibaaGreatDoor
open Go.RowKit
set_option linter.unusedVariables false
variable {mk : Prop} [MK mk]
end Go.Proofs.YtfcgdbmoncnibaaGreatDoor
namespace Go.Proofs.YtfcgdbmoncnibaaGreatDoor
open Go.RowKit
set_option linter.unusedVariables false
variable {mk : Prop} [MK mk]
end Go.Proofs.YtfcgdbmoncnibaaGreatDoor
namespace Go.Proofs.YtfcgdbmoncnibaaGreatDoor
open Go.RowKit
set_option linter.unusedVariables false
variable {mk : Prop} [MK mk]
end Go.Proofs.YtfcgdbmoncnibaaGreatDoor
namespace Go.Proofs.YtfcgdbmoncnibaaGreatDoor
open Go.RowKit
set_option linter.unusedVariables false
variable {mk : Prop} [MK mk]
theorem gap_ok (t : List UInt8) (w : World) (hl : t.length ≤ 1000000) : Fn Tryz.prog 99 [AL t] w fun v w' => v = .int .i64 (gapW t 0 : Int) ∧ w' = w := by
 refine Ab Tryz.func99 rfl Tryz.ntmps99 (Nat.le_of_ble_eq_true rfl) (by kernel_rfl) ?_
 repeat refine nx rfl ?_
 refine AA (AC (AF rfl ?_))
 repeat refine nx rfl ?_
 refine AA (AC (AF rfl ?_))
 repeat refine nx rfl ?_
 refine BJ (α := Nat) (fun a => [(0, AL t), (3, .int .i64 (a : Int))]) (fun a w1 => a ≤ t.length ∧ gapW t a = gapW t 0 ∧ w1 = w) (fun a => t.length - a) 0 ⟨rfl, rfl, trivial⟩ ⟨by omega, rfl, rfl⟩ ?_
 rintro a w1 f1 ⟨ha, hg, rfl⟩
 repeat refine nx rfl ?_
 by_cases hlt : a < t.length
 ·have hc0 : t[a]? = some t[a] := List.getElem?_eq_getElem hlt
  generalize t[a] = c at hc0
  rw [gapW_step hc0] at hg
  refine AA (AF rfl (AU rfl (Au rfl (BC rfl rfl (by omega) ?_))))
  repeat refine nx rfl ?_
  by_cases h37 : c.toNat = 37
  ·rw [if_pos h37] at hg
   (refine AA (AU rfl (AF rfl (BB rfl rfl (by assumption) ?_))) <;> refine Av rfl rfl (by omega) ?_)
   repeat refine nx rfl ?_
   have hle := Bk (p := BN) (t := t) (a := a) (by omega)
   have hst := Bd (p := BN) hc0 (by simp [BN, h37])
   have hge := Bv BN t (a + 1)
   refine BJ (α := Nat) (fun j => [(0, AL t), (3, .int .i64 (j : Int))]) (fun j w2 => j ≤ t.length ∧ Aj BN t j = Aj BN t a ∧ w2 = w1) (fun j => t.length - j) a ⟨rfl, rfl, trivial⟩ ⟨by omega, rfl, rfl⟩ ?_
   rintro j w2 f2 ⟨hj, hw, rfl⟩
   repeat refine nx rfl ?_
   by_cases hjl : j < t.length
   ·have hcj : t[j]? = some t[j] := List.getElem?_eq_getElem hjl
    generalize t[j] = d at hcj
    by_cases h10 : d.toNat = 10
    ·(refine AA (AF rfl (AU rfl (Au rfl (BC rfl rfl (by omega) (AB rfl (AE rfl (AU rfl (AE rfl (AF rfl (AE rfl (BB rfl rfl (by assumption) ?_))))))))))) <;> refine AE rfl (W_neqF rfl rfl (by omega) (AK rfl (AB rfl ?_))))
     repeat first | refine nx rfl ?_ | refine nf rfl ?_
     have hjw := whileB_stop (p := BN) hcj (by simp [BN, h10])
     exact ⟨j, ⟨rfl, ⟨rfl, rfl, trivial⟩, ⟨hj, by rw [← hg, ← hw, hjw], rfl⟩⟩, by omega⟩
    ·(refine AA (AF rfl (AU rfl (Au rfl (BC rfl rfl (by omega) (AB rfl (AE rfl (AU rfl (AE rfl (AF rfl (AE rfl (BB rfl rfl (by assumption) ?_))))))))))) <;> refine AE rfl (W_neqT rfl rfl (by omega) (AK rfl (AB rfl ?_))))
     repeat refine nx rfl ?_
     (refine AA (AF rfl (BK rfl rfl (by first | exact Am (by omega) (by omega) | exact At (by omega) (by omega) | exact Al (by omega) (by omega)) ?_)) <;> refine AC (AF rfl ?_))
     repeat refine nx rfl ?_
     have hjw := Bd (p := BN) hcj (by simp [BN, h10])
     refine ⟨j + 1, ⟨rfl, ⟨rfl, ?_, trivial⟩, ⟨by omega, by rw [← hw, hjw], rfl⟩⟩, by omega⟩
     show Value.int .i64 ((j : Int) + 1) = _
     rw [Int.natCast_add]; rfl
   ·refine AA (AF rfl (AU rfl (Au rfl (BA rfl rfl (by omega) (AB rfl (AI rfl (AI rfl (AI rfl (AI rfl (AP rfl (AB rfl ?_)))))))))))
    repeat first | refine nx rfl ?_ | refine nf rfl ?_
    have hjw := whileB_end (p := BN) (t := t) (a := j) (by omega)
    exact ⟨j, ⟨rfl, ⟨rfl, rfl, trivial⟩, ⟨hj, by rw [← hg, ← hw, hjw], rfl⟩⟩, by omega⟩
  ·rw [if_neg h37] at hg
   (refine AA (AU rfl (AF rfl (BB rfl rfl (by assumption) ?_))) <;> refine AN rfl rfl (by omega) ?_)
   repeat first | refine nx rfl ?_ | refine nf rfl ?_
   refine AA (AU rfl (AF rfl (BB rfl rfl (by assumption) ?_)))
   refine AS (blankB_ok c _) rfl ?_
   rintro v w2 ⟨rfl, rfl⟩
   refine AJ ?_
   cases hb : isBlank c with
   | true =>
    rw [if_pos hb] at hg
    repeat refine nx rfl ?_
    (refine AA (AF rfl (BK rfl rfl (by first | exact Am (by omega) (by omega) | exact At (by omega) (by omega) | exact Al (by omega) (by omega)) ?_)) <;> refine AC (AF rfl ?_))
    repeat refine nx rfl ?_
    refine ⟨a + 1, ⟨rfl, ⟨rfl, ?_, trivial⟩, ⟨by omega, hg, rfl⟩⟩, by omega⟩
    show Value.int .i64 ((a : Int) + 1) = _
    rw [Int.natCast_add]; rfl
   | false =>
    rw [hb, if_neg (by simp)] at hg
    repeat first | refine nx rfl ?_ | refine nf rfl ?_
    refine AA (AF rfl (AC (AF rfl ?_)))
    repeat refine nx rfl ?_
    exact AO rfl ⟨by rw [← hg]; rfl, rfl⟩
 ·obtain rfl : a = t.length := by omega
  refine AA (AF rfl (AU rfl (Au rfl (BA rfl rfl (by omega) ?_))))
  repeat first | refine nx rfl ?_ | refine nf rfl ?_
  refine AA (AF rfl (AC (AF rfl ?_)))
  repeat refine nx rfl ?_
  exact AO rfl ⟨by rw [← hg, gapW_end]; rfl, rfl⟩
end Go.Proofs.YtfcgdbmoncnibaaGreatDoor
namespace Go.Proofs.YtfcgdbmoncnibaaGreatDoor
open Go.RowKit
set_option linter.unusedVariables false
variable {mk : Prop} [MK mk]
theorem rlow_ok : Test 137 A4 := by
 intro c w
 refine Ab Tryz.func137 rfl Tryz.ntmps137 (Nat.le_of_ble_eq_true rfl) (by kernel_rfl) ?_
 repeat refine nx rfl ?_
 refine AA (AC (AB rfl ?_))
 repeat refine nx rfl ?_
 (refine AA (AF rfl ?_) <;> (refine W_geq rfl rfl (fun hc => ?_) (fun hc => ?_) <;> try omega) <;> refine AB rfl ?_ <;> (first | refine AI rfl ?_ | (refine AE rfl ?_; refine AF rfl ?_)) <;> (first | refine AI rfl ?_ | (refine AE rfl ?_; (refine W_leq rfl rfl (fun hc => ?_) (fun hc => ?_) <;> try omega))) <;> ((first | refine AK rfl ?_ | refine AP rfl ?_); refine AB rfl ?_) <;> refine AC (AB rfl (AJ ?_)))
 all_goals
  repeat refine nx rfl ?_
  exact AO rfl ⟨by simp [A4, upd, Nat.beq]; omega, rfl⟩
theorem rbig_ok : Test 134 isUp := by
 intro c w
 refine Ab Tryz.func134 rfl Tryz.ntmps134 (Nat.le_of_ble_eq_true rfl) (by kernel_rfl) ?_
 repeat refine nx rfl ?_
 refine AA (AC (AB rfl ?_))
 repeat refine nx rfl ?_
 (refine AA (AF rfl ?_) <;> (refine W_geq rfl rfl (fun hc => ?_) (fun hc => ?_) <;> try omega) <;> refine AB rfl ?_ <;> (first | refine AI rfl ?_ | (refine AE rfl ?_; refine AF rfl ?_)) <;> (first | refine AI rfl ?_ | (refine AE rfl ?_; (refine W_leq rfl rfl (fun hc => ?_) (fun hc => ?_) <;> try omega))) <;> ((first | refine AK rfl ?_ | refine AP rfl ?_); refine AB rfl ?_) <;> refine AC (AB rfl (AJ ?_)))
 all_goals
  repeat refine nx rfl ?_
  exact AO rfl ⟨by simp [isUp, upd, Nat.beq]; omega, rfl⟩
theorem rdig_ok : Test 136 Ap := by
 intro c w
 refine Ab Tryz.func136 rfl Tryz.ntmps136 (Nat.le_of_ble_eq_true rfl) (by kernel_rfl) ?_
 repeat refine nx rfl ?_
 refine AA (AC (AB rfl ?_))
 repeat refine nx rfl ?_
 (refine AA (AF rfl ?_) <;> (refine W_geq rfl rfl (fun hc => ?_) (fun hc => ?_) <;> try omega) <;> refine AB rfl ?_ <;> (first | refine AI rfl ?_ | (refine AE rfl ?_; refine AF rfl ?_)) <;> (first | refine AI rfl ?_ | (refine AE rfl ?_; (refine W_leq rfl rfl (fun hc => ?_) (fun hc => ?_) <;> try omega))) <;> ((first | refine AK rfl ?_ | refine AP rfl ?_); refine AB rfl ?_) <;> refine AC (AB rfl (AJ ?_)))
 all_goals
  repeat refine nx rfl ?_
  exact AO rfl ⟨by simp [Ap, upd, Nat.beq]; omega, rfl⟩
theorem rpart_ok : Test 135 BD := by
 intro c w
 refine Ab Tryz.func135 rfl Tryz.ntmps135 (Nat.le_of_ble_eq_true rfl) (by kernel_rfl) ?_
 repeat refine nx rfl ?_
 refine AA (AC (AB rfl ?_))
 repeat refine nx rfl ?_
 refine AA (AF rfl ?_)
 refine AS (rlow_ok c w) rfl ?_
 rintro v w' ⟨rfl, rfl⟩
 cases hs : A4 c with
 | true =>
  refine AB rfl (AI rfl (AI rfl (AK rfl (AB rfl (AB rfl (AI rfl (AI rfl (AK rfl (AB rfl (AC (AB rfl (AJ ?_))))))))))))
  all_goals
   repeat refine nx rfl ?_
   exact AO rfl ⟨by simp [BD, hs, upd, Nat.beq], rfl⟩
 | false =>
  refine AB rfl (AE rfl (AF rfl ?_))
  refine AE rfl ?_
  refine AS (rdig_ok c _) rfl ?_
  rintro v w' ⟨rfl, rfl⟩
  cases hd : Ap c with
  | true =>
   refine AP rfl (AB rfl (AB rfl (AI rfl (AI rfl (AK rfl (AB rfl (AC (AB rfl (AJ ?_)))))))))
   all_goals
    repeat refine nx rfl ?_
    exact AO rfl ⟨by simp [BD, hs, hd, upd, Nat.beq], rfl⟩
  | false =>
   (refine AP rfl (AB rfl (AB rfl (AE rfl (AF rfl ?_)))) <;> (refine AE rfl ?_; (refine B0 rfl rfl (fun hc => ?_) (fun hc => ?_) <;> try omega)) <;> refine AP rfl (AB rfl (AC (AB rfl (AJ ?_)))))
   all_goals
    repeat refine nx rfl ?_
    exact AO rfl ⟨by simp [BD, hs, hd, upd, Nat.beq]; omega, rfl⟩
theorem rsymbols_ok (w : World) : Fn Tryz.prog 156 [] w fun v w' => v = .slice (some ⟨w.heap.size, 0, none⟩) 15 15 ∧ Ext w w' ∧ Cells w' w.heap.size 0 symC := by
 refine Ab Tryz.func156 rfl Tryz.ntmps156 (Nat.le_of_ble_eq_true rfl) (by kernel_rfl) ?_
 repeat refine nx rfl ?_
 refine AA (AC (Ae rfl ?_))
 repeat refine nx rfl ?_
 refine AA ?_
 refine W_buildSlice1 (out := symC) rfl (by omega) rfl (by kernel_rfl) (fun w2 n2 => ?_)
 refine AC (Ae rfl ?_)
 repeat refine nx rfl ?_
 exact AO rfl ⟨rfl, n2.keep, n2.blk.cells⟩
def symW (u : List UInt8) : List UInt8 := (symsL.find? (Br u)).getD []
theorem rsymbol_ok (u : List UInt8) (w : World) : Fn Tryz.prog 138 [AL u] w fun v w' => v = AL (symW u) ∧ Ext w w' := by
 refine Ab Tryz.func138 rfl Tryz.ntmps138 (Nat.le_of_ble_eq_true rfl) (by kernel_rfl) ?_
 repeat refine nx rfl ?_
 refine AA (AC (AU rfl ?_))
 repeat refine nx rfl ?_
 refine AA ?_
 refine AS (rsymbols_ok w) rfl ?_
 rintro v w1 ⟨rfl, k1, hC⟩
 refine AC (Ae rfl ?_)
 repeat refine nx rfl ?_
 refine AA (AC (AF rfl ?_))
 repeat refine nx rfl ?_
 refine BJ (α := Nat) (fun k => [(0, AL u), (3, .slice (some ⟨w.heap.size, 0, none⟩) 15 15), (4, .int .i64 (k : Int))]) (fun k w2 => k ≤ 15 ∧ Ext w1 w2 ∧ symsL.find? (Br u) = (symsL.drop k).find? (Br u)) (fun k => 15 - k) 0 ⟨rfl, rfl, rfl, trivial⟩ ⟨by omega, Ext.refl _, rfl⟩ ?_
 rintro k w2 f' ⟨hk, k2, hf⟩
 repeat refine nx rfl ?_
 by_cases hlt : k < 15
 ·obtain ⟨y, hy⟩ : ∃ y, symsL[k]? = some y := ⟨_, List.getElem?_eq_getElem (by show k < 15; exact hlt)⟩
  have hyc : symC[k]? = some (AL y) := by unfold symC; rw [List.getElem?_map, hy]; rfl
  rw [find_step hy] at hf
  refine AA (AF rfl (Ae rfl (As rfl (BC rfl rfl (by omega) ?_))))
  repeat refine nx rfl ?_
  refine Bb (.read 0 (.read 1 (.read 2 (.read 3 (.read 4 (.read 5 (.read 6 (.read 7 (.read 8 (.read 9 (.read 10 (.read 11 (.read 12 (.read 13 (.read 14 (.read 15 (.read 16 (.read 17 (.read 18 (.read 19 (.read 20 (.read 21 .done)))))))))))))))))))))) BP (by kernel_rfl) (fun wd kd ed => ⟨fun W => W = wd, ?_, ?_⟩)
  ·rfl
  have hcell : wd.cell? ⟨w.heap.size, 0 + k, none⟩ = some (AL y) := ((hC.keep k2 (by simp)).keep kd (by simp)) k _ hyc
  by_cases hl : y.length ≤ u.length
  ·by_cases he : u.take y.length = y
   ·have hp : Br u y = true := by simp [Br, hl, he]
    ((apply D_R rfl rfl; (intro W hW; subst hW; refine AU rfl ?_; exact Z3)) <;> (apply D_R rfl rfl; (intro W hW; subst hW; refine Au rfl ?_; exact Z3)) <;> (apply D_R rfl rfl; (intro W hW; subst hW; refine Ae rfl ?_; exact Z3)) <;> (apply D_R rfl rfl; (intro W hW; subst hW; refine AF rfl ?_; exact Z3)) <;> (apply D_R rfl rfl; (intro W hW; subst hW; refine W_idx1 rfl rfl rfl (by omega) ?_; exact Z3)) <;> (apply D_R rfl rfl; (intro W hW; subst hW; refine AG rfl (by assumption) ?_; exact Z3)) <;> (apply D_R rfl rfl; (intro W hW; subst hW; refine Au rfl ?_; exact Z3)) <;> refine D_geqT rfl rfl rfl rfl (by omega) ?_ <;> (apply D_R rfl rfl; (intro W hW; subst hW; refine AB rfl ?_; exact Z3)) <;> (apply D_R rfl rfl; (intro W hW; subst hW; (refine AE rfl ?_; refine AU rfl ?_); exact Z3)) <;> (apply D_R rfl rfl; (intro W hW; subst hW; (refine AE rfl ?_; refine Ae rfl ?_); exact Z3)) <;> (apply D_R rfl rfl; (intro W hW; subst hW; (refine AE rfl ?_; refine AF rfl ?_); exact Z3)) <;> (apply D_R rfl rfl; (intro W hW; subst hW; (refine AE rfl ?_; refine W_idx1 rfl rfl rfl (by omega) ?_); exact Z3)) <;> (apply D_R rfl rfl; (intro W hW; subst hW; (refine AE rfl ?_; refine AG rfl (by assumption) ?_); exact Z3)) <;> (apply D_R rfl rfl; (intro W hW; subst hW; (refine AE rfl ?_; refine Au rfl ?_); exact Z3)) <;> (apply D_R rfl rfl; (intro W hW; subst hW; (refine AE rfl ?_; refine Cg rfl rfl (by omega) ?_); exact Z3)) <;> (apply D_R rfl rfl; (intro W hW; subst hW; (refine AE rfl ?_; refine Ae rfl ?_); exact Z3)) <;> (apply D_R rfl rfl; (intro W hW; subst hW; (refine AE rfl ?_; refine AF rfl ?_); exact Z3)) <;> (apply D_R rfl rfl; (intro W hW; subst hW; (refine AE rfl ?_; refine W_idx1 rfl rfl rfl (by omega) ?_); exact Z3)) <;> (apply D_R rfl rfl; (intro W hW; subst hW; (refine AE rfl ?_; refine AG rfl (by assumption) ?_); exact Z3)) <;> (refine D_seql rfl rfl rfl rfl (fun hc => ?_) (fun hc => ?_)) <;> (apply D_R rfl rfl; (intro W hW; subst hW; (refine AK rfl ?_; refine AB rfl ?_); exact Z3)) <;> refine A8 ?_)
    ·repeat refine nx rfl ?_
     have hcell' : wd.cell? ⟨w.heap.size, 0 + k, none⟩ = some (AL y) := hcell
     (refine AA (Ae rfl (AF rfl (W_idx1 rfl rfl rfl (by omega) (AG rfl (by assumption) ?_)))) <;> refine AC (AU rfl ?_))
     repeat refine nx rfl ?_
     rw [hp, if_pos rfl] at hf
     exact AO rfl ⟨by unfold symW; rw [hf]; rfl, (k1.trans k2).trans kd⟩
    ·exact absurd he (by assumption)
   ·have hp : Br u y = false := by simp [Br, he]
    rw [hp, if_neg (by simp)] at hf
    ((apply D_R rfl rfl; (intro W hW; subst hW; refine AU rfl ?_; exact Z3)) <;> (apply D_R rfl rfl; (intro W hW; subst hW; refine Au rfl ?_; exact Z3)) <;> (apply D_R rfl rfl; (intro W hW; subst hW; refine Ae rfl ?_; exact Z3)) <;> (apply D_R rfl rfl; (intro W hW; subst hW; refine AF rfl ?_; exact Z3)) <;> (apply D_R rfl rfl; (intro W hW; subst hW; refine W_idx1 rfl rfl rfl (by omega) ?_; exact Z3)) <;> (apply D_R rfl rfl; (intro W hW; subst hW; refine AG rfl (by assumption) ?_; exact Z3)) <;> (apply D_R rfl rfl; (intro W hW; subst hW; refine Au rfl ?_; exact Z3)) <;> refine D_geqT rfl rfl rfl rfl (by omega) ?_ <;> (apply D_R rfl rfl; (intro W hW; subst hW; refine AB rfl ?_; exact Z3)) <;> (apply D_R rfl rfl; (intro W hW; subst hW; (refine AE rfl ?_; refine AU rfl ?_); exact Z3)) <;> (apply D_R rfl rfl; (intro W hW; subst hW; (refine AE rfl ?_; refine Ae rfl ?_); exact Z3)) <;> (apply D_R rfl rfl; (intro W hW; subst hW; (refine AE rfl ?_; refine AF rfl ?_); exact Z3)) <;> (apply D_R rfl rfl; (intro W hW; subst hW; (refine AE rfl ?_; refine W_idx1 rfl rfl rfl (by omega) ?_); exact Z3)) <;> (apply D_R rfl rfl; (intro W hW; subst hW; (refine AE rfl ?_; refine AG rfl (by assumption) ?_); exact Z3)) <;> (apply D_R rfl rfl; (intro W hW; subst hW; (refine AE rfl ?_; refine Au rfl ?_); exact Z3)) <;> (apply D_R rfl rfl; (intro W hW; subst hW; (refine AE rfl ?_; refine Cg rfl rfl (by omega) ?_); exact Z3)) <;> (apply D_R rfl rfl; (intro W hW; subst hW; (refine AE rfl ?_; refine Ae rfl ?_); exact Z3)) <;> (apply D_R rfl rfl; (intro W hW; subst hW; (refine AE rfl ?_; refine AF rfl ?_); exact Z3)) <;> (apply D_R rfl rfl; (intro W hW; subst hW; (refine AE rfl ?_; refine W_idx1 rfl rfl rfl (by omega) ?_); exact Z3)) <;> (apply D_R rfl rfl; (intro W hW; subst hW; (refine AE rfl ?_; refine AG rfl (by assumption) ?_); exact Z3)) <;> (refine D_seql rfl rfl rfl rfl (fun hc => ?_) (fun hc => ?_)) <;> (apply D_R rfl rfl; (intro W hW; subst hW; (refine AK rfl ?_; refine AB rfl ?_); exact Z3)) <;> refine A8 ?_)
    ·exact absurd (by assumption) he
    ·repeat first | refine nx rfl ?_ | refine nf rfl ?_
     (refine AA (AF rfl (BK rfl rfl (by first | exact Am (by omega) (by omega) | exact At (by omega) (by omega) | exact Al (by omega) (by omega)) ?_)) <;> refine AC (AF rfl ?_))
     repeat refine nx rfl ?_
     refine ⟨k + 1, ⟨rfl, ⟨rfl, rfl, ?_, trivial⟩, ⟨by omega, k2.trans kd, hf⟩⟩, by omega⟩
     show Value.int .i64 ((k : Int) + 1) = _
     rw [Int.natCast_add]; rfl
  ·have hp : Br u y = false := by simp [Br, hl]
   rw [hp, if_neg (by simp)] at hf
   ((apply D_R rfl rfl; (intro W hW; subst hW; refine AU rfl ?_; exact Z3)) <;> (apply D_R rfl rfl; (intro W hW; subst hW; refine Au rfl ?_; exact Z3)) <;> (apply D_R rfl rfl; (intro W hW; subst hW; refine Ae rfl ?_; exact Z3)) <;> (apply D_R rfl rfl; (intro W hW; subst hW; refine AF rfl ?_; exact Z3)) <;> (apply D_R rfl rfl; (intro W hW; subst hW; refine W_idx1 rfl rfl rfl (by omega) ?_; exact Z3)) <;> (apply D_R rfl rfl; (intro W hW; subst hW; refine AG rfl (by assumption) ?_; exact Z3)) <;> (apply D_R rfl rfl; (intro W hW; subst hW; refine Au rfl ?_; exact Z3)) <;> refine D_geqF rfl rfl rfl rfl (by omega) ?_ <;> (apply D_R rfl rfl; (intro W hW; subst hW; refine AB rfl ?_; exact Z3)) <;> refine Af rfl rfl rfl rfl (Af rfl rfl rfl rfl (Af rfl rfl rfl rfl (Af rfl rfl rfl rfl (Af rfl rfl rfl rfl (Af rfl rfl rfl rfl (Af rfl rfl rfl rfl (Af rfl rfl rfl rfl (Af rfl rfl rfl rfl (Af rfl rfl rfl rfl (Af rfl rfl rfl rfl (Af rfl rfl rfl rfl ?_))))))))))) <;> (apply D_R rfl rfl; (intro W hW; subst hW; (refine AP rfl ?_; refine AB rfl ?_); exact Z3)) <;> refine A8 ?_)
   repeat first | refine nx rfl ?_ | refine nf rfl ?_
   (refine AA (AF rfl (BK rfl rfl (by first | exact Am (by omega) (by omega) | exact At (by omega) (by omega) | exact Al (by omega) (by omega)) ?_)) <;> refine AC (AF rfl ?_))
   repeat refine nx rfl ?_
   refine ⟨k + 1, ⟨rfl, ⟨rfl, rfl, ?_, trivial⟩, ⟨by omega, k2.trans kd, hf⟩⟩, by omega⟩
   show Value.int .i64 ((k : Int) + 1) = _
   rw [Int.natCast_add]; rfl
 ·refine AA (AF rfl (Ae rfl (As rfl (BA rfl rfl (by omega) ?_))))
  repeat first | refine nx rfl ?_ | refine nf rfl ?_
  refine AA (AC (AU rfl ?_))
  repeat refine nx rfl ?_
  have hd : symsL.drop k = [] := List.drop_eq_nil_of_le (by show 15 ≤ k; omega)
  rw [hd] at hf
  exact AO rfl ⟨by unfold symW; rw [hf]; rfl, k1.trans k2⟩
def CU (u : List UInt8) : Int × Nat × Bool :=
 if CH (u.getD 0 0) = true then (1, Aj BD u 1, decide (Aj BD u 1 ≤ 20))
 else if Ap (u.getD 0 0) = true then (2, Aj Ap u 0, !BL u 0)
 else (3, (symW u).length, !decide (symW u = []))
end Go.Proofs.YtfcgdbmoncnibaaGreatDoor
namespace Go.Proofs.YtfcgdbmoncnibaaGreatDoor
open Go.RowKit
set_option linter.unusedVariables false
variable {mk : Prop} [MK mk]
theorem rnext_ok (u : List UInt8) (w : World) (h1 : 1 ≤ u.length) (h6 : u.length ≤ 1000000) : Fn Tryz.prog 100 [AL u] w fun v w' => Ext w w' ∧ v = .tuple #[.agg #[.int .i64 (CU u).1, AL (u.take (CU u).2.1), .int .i64 0], .bool (CU u).2.2] := by
 have hc0 : u[0]? = some u[0] := List.getElem?_eq_getElem (by omega)
 generalize u[0] = c at hc0
 have hgd : u.getD 0 0 = c := by simp [List.getD_eq_getElem?_getD, hc0]
 have cb := c.toNat_lt
 refine Ab Tryz.func100 rfl Tryz.ntmps100 (Nat.le_of_ble_eq_true rfl) (by kernel_rfl) ?_
 repeat refine nx rfl ?_
 refine AA ?_
 refine Ay (fun w1 n1 => ?_)
 have b1 : Blk w1 w.heap.size 158 [.int .i64 0, AL [], .int .i64 0] := n1.blk
 refine AC (AB rfl ?_)
 repeat refine nx rfl ?_
 refine AA (AC (AF rfl ?_))
 repeat refine nx rfl ?_
 refine CE (α := Unit) (fun _ => [(0, AL u), (2, pt w.heap.size), (3, .bool false), (4, .int .i64 0), (19, .bool (CH c))]) (fun _ W => W = w1) ?_ ?_
 ·by_cases hs : 97 ≤ c.toNat ∧ c.toNat ≤ 122
  ·have hsm : A4 c = true := by simp [A4, hs.1, hs.2]
   (refine AA (AU rfl (BB rfl rfl (by assumption) ?_)) <;> refine W_geqT rfl rfl (by omega) (AB rfl (AE rfl (AU rfl (AE rfl (BB rfl rfl (by assumption) ?_))))) <;> refine AE rfl (C2 rfl rfl (by omega) (AK rfl (AB rfl (AB rfl (AI rfl (AI rfl ?_)))))))
   refine AI rfl (AK rfl (AB rfl (AJ ?_)))
   exact An () ⟨rfl, rfl, rfl, rfl, by simp [upd, Nat.beq, CH, hsm], trivial⟩ rfl
  ·have hsm : A4 c = false := by simp [A4]; omega
   (refine AA (AU rfl (BB rfl rfl (by assumption) ?_)) <;> (refine W_geq rfl rfl (fun hc => ?_) (fun hc => ?_) <;> try omega) <;> refine AB rfl ?_ <;> (first | refine AI rfl ?_ | (refine AE rfl ?_; refine AU rfl ?_)) <;> (first | refine AI rfl ?_ | (refine AE rfl ?_; refine BB rfl rfl (by assumption) ?_)) <;> (first | refine AI rfl ?_ | (refine AE rfl ?_; refine DM rfl rfl (by omega) ?_)) <;> ((first | refine AK rfl ?_ | refine AP rfl ?_); refine AB rfl ?_) <;> refine AB rfl (AE rfl (AU rfl (AE rfl (BB rfl rfl (by assumption) ?_)))))
   all_goals
    refine AE rfl (AS (rbig_ok c _) rfl ?_)
    rintro v w' ⟨rfl, rfl⟩
    refine AP rfl (AB rfl (AJ ?_))
    exact An () ⟨rfl, rfl, rfl, rfl, by simp [upd, Nat.beq, CH, hsm], trivial⟩ rfl
 rintro _ w2 f2 rfl
 repeat refine nx rfl ?_
 cases hl : CH c with
 | true =>
  repeat refine nx rfl ?_
  refine AA (AC (AF rfl ?_))
  repeat refine nx rfl ?_
  refine BJ (α := Nat) (fun n => [(0, AL u), (2, pt w.heap.size), (3, .bool false), (4, .int .i64 (n : Int))]) (fun n W => n ≤ u.length ∧ 1 ≤ n ∧ Aj BD u n = Aj BD u 1 ∧ W = w2) (fun n => u.length - n) 1 ⟨rfl, rfl, rfl, rfl, trivial⟩ ⟨by omega, Nat.le_refl _, rfl, rfl⟩ ?_
  rintro n w3 f3 ⟨hn, hn0, hw, rfl⟩
  repeat refine nx rfl ?_
  by_cases hlt : n < u.length
  ·have hcn : u[n]? = some u[n] := List.getElem?_eq_getElem hlt
   generalize u[n] = d at hcn
   refine AA (AF rfl (AU rfl (Au rfl (BC rfl rfl (by omega) (AB rfl (AE rfl (AU rfl (AE rfl (AF rfl (AE rfl (BB rfl rfl (by assumption) ?_)))))))))))
   refine AE rfl (AS (rpart_ok d _) rfl ?_)
   rintro v w' ⟨rfl, rfl⟩
   refine AK rfl (AB rfl (AJ ?_))
   cases hp : BD d with
   | true =>
    repeat refine nx rfl ?_
    (refine AA (AF rfl (BK rfl rfl (by first | exact Am (by omega) (by omega) | exact At (by omega) (by omega) | exact Al (by omega) (by omega)) ?_)) <;> refine AC (AF rfl ?_))
    repeat refine nx rfl ?_
    refine ⟨n + 1, ⟨rfl, ⟨rfl, rfl, rfl, ?_, trivial⟩, ⟨by omega, by omega, (Bd hcn hp).symm.trans hw, rfl⟩⟩, by omega⟩
    show Value.int .i64 ((n : Int) + 1) = _
    rw [Int.natCast_add]; rfl
   | false =>
    have hwn := whileB_stop hcn hp
    repeat first | refine nx rfl ?_ | refine nf rfl ?_
    have hend : n = Aj BD u 1 := by omega
    have hwl := Bk (p := BD) (t := u) (a := 1) (by omega)
    rw [hend]
    by_cases h20 : Aj BD u 1 ≤ 20
    ·(refine AA (AU rfl (AF rfl (Cg rfl rfl (by omega) (Ad (by rfl) (by rfl) ?_)))) <;> refine AF rfl (C2 rfl rfl (by omega) ?_))
     refine AZ (cs := [.int .i64 1, AL (u.take (Aj BD u 1)), .int .i64 0]) rfl rfl rfl (BG rfl) b1 (by simp) (fun w4 p4 => ?_)
     have b4 : Blk w4 w.heap.size 158 [.int .i64 1, AL (u.take (Aj BD u 1)), .int .i64 0] := p4.blk
     refine AC (AB rfl ?_)
     repeat refine nx rfl ?_
     refine CJ rfl rfl rfl b4.cells ⟨n1.keep.keep p4.keep (by simp), ?_⟩
     unfold CU
     rw [hgd, if_pos hl, decide_eq_true h20]; rfl
    ·(refine AA (AU rfl (AF rfl (Cg rfl rfl (by omega) (Ad (by rfl) (by rfl) ?_)))) <;> refine AF rfl (DM rfl rfl (by omega) ?_))
     refine AZ (cs := [.int .i64 1, AL (u.take (Aj BD u 1)), .int .i64 0]) rfl rfl rfl (BG rfl) b1 (by simp) (fun w4 p4 => ?_)
     have b4 : Blk w4 w.heap.size 158 [.int .i64 1, AL (u.take (Aj BD u 1)), .int .i64 0] := p4.blk
     refine AC (AB rfl ?_)
     repeat refine nx rfl ?_
     refine CJ rfl rfl rfl b4.cells ⟨n1.keep.keep p4.keep (by simp), ?_⟩
     unfold CU
     rw [hgd, if_pos hl, decide_eq_false h20]; rfl
  ·obtain rfl : n = u.length := by omega
   have hwn := whileB_end (p := BD) (t := u) (a := u.length) (by omega)
   have hend : u.length = Aj BD u 1 := by omega
   refine AA (AF rfl (AU rfl (Au rfl (BA rfl rfl (by omega) (AB rfl (AI rfl (AI rfl (AI rfl ?_))))))))
   refine AI rfl (AP rfl (AB rfl ?_))
   repeat first | refine nx rfl ?_ | refine nf rfl ?_
   have hwl := Bk (p := BD) (t := u) (a := 1) (by omega)
   rw [hend]
   by_cases h20 : Aj BD u 1 ≤ 20
   ·(refine AA (AU rfl (AF rfl (Cg rfl rfl (by omega) (Ad (by rfl) (by rfl) ?_)))) <;> refine AF rfl (C2 rfl rfl (by omega) ?_))
    refine AZ (cs := [.int .i64 1, AL (u.take (Aj BD u 1)), .int .i64 0]) rfl rfl rfl (BG rfl) b1 (by simp) (fun w4 p4 => ?_)
    have b4 : Blk w4 w.heap.size 158 [.int .i64 1, AL (u.take (Aj BD u 1)), .int .i64 0] := p4.blk
    refine AC (AB rfl ?_)
    repeat refine nx rfl ?_
    refine CJ rfl rfl rfl b4.cells ⟨n1.keep.keep p4.keep (by simp), ?_⟩
    unfold CU
    rw [hgd, if_pos hl, decide_eq_true h20]; rfl
   ·(refine AA (AU rfl (AF rfl (Cg rfl rfl (by omega) (Ad (by rfl) (by rfl) ?_)))) <;> refine AF rfl (DM rfl rfl (by omega) ?_))
    refine AZ (cs := [.int .i64 1, AL (u.take (Aj BD u 1)), .int .i64 0]) rfl rfl rfl (BG rfl) b1 (by simp) (fun w4 p4 => ?_)
    have b4 : Blk w4 w.heap.size 158 [.int .i64 1, AL (u.take (Aj BD u 1)), .int .i64 0] := p4.blk
    refine AC (AB rfl ?_)
    repeat refine nx rfl ?_
    refine CJ rfl rfl rfl b4.cells ⟨n1.keep.keep p4.keep (by simp), ?_⟩
    unfold CU
    rw [hgd, if_pos hl, decide_eq_false h20]; rfl
 | false =>
  repeat first | refine nx rfl ?_ | refine nf rfl ?_
  refine AA (AU rfl (BB rfl rfl (by assumption) ?_))
  refine AS (rdig_ok c _) rfl ?_
  rintro v w' ⟨rfl, rfl⟩
  refine AJ ?_
  cases hd : Ap c with
  | true =>
   repeat refine nx rfl ?_
   refine BJ (α := Nat) (fun n => [(0, AL u), (2, pt w.heap.size), (3, .bool false), (4, .int .i64 (n : Int))]) (fun n W => n ≤ u.length ∧ 0 ≤ n ∧ Aj Ap u n = Aj Ap u 0 ∧ W = w') (fun n => u.length - n) 0 ⟨rfl, rfl, rfl, rfl, trivial⟩ ⟨by omega, Nat.le_refl _, rfl, rfl⟩ ?_
   rintro n w3 f3 ⟨hn, hn0, hw, rfl⟩
   repeat refine nx rfl ?_
   by_cases hlt : n < u.length
   ·have hcn : u[n]? = some u[n] := List.getElem?_eq_getElem hlt
    generalize u[n] = d at hcn
    refine AA (AF rfl (AU rfl (Au rfl (BC rfl rfl (by omega) (AB rfl (AE rfl (AU rfl (AE rfl (AF rfl (AE rfl (BB rfl rfl (by assumption) ?_)))))))))))
    refine AE rfl (AS (rdig_ok d _) rfl ?_)
    rintro v w' ⟨rfl, rfl⟩
    refine AK rfl (AB rfl (AJ ?_))
    cases hp : Ap d with
    | true =>
     repeat refine nx rfl ?_
     (refine AA (AF rfl (BK rfl rfl (by first | exact Am (by omega) (by omega) | exact At (by omega) (by omega) | exact Al (by omega) (by omega)) ?_)) <;> refine AC (AF rfl ?_))
     repeat refine nx rfl ?_
     refine ⟨n + 1, ⟨rfl, ⟨rfl, rfl, rfl, ?_, trivial⟩, ⟨by omega, by omega, (Bd hcn hp).symm.trans hw, rfl⟩⟩, by omega⟩
     show Value.int .i64 ((n : Int) + 1) = _
     rw [Int.natCast_add]; rfl
    | false =>
     have hwn := whileB_stop hcn hp
     repeat first | refine nx rfl ?_ | refine nf rfl ?_
     have hend : n = Aj Ap u 0 := by omega
     have hwl := Bk (p := Ap) (t := u) (a := 0) (by omega)
     have hge1 : 1 ≤ Aj Ap u 0 := by
      have h1 := Bd (p := Ap) hc0 hd
      have h2 := Bv Ap u (0 + 1)
      omega
     have hnx : CU u = (2, Aj Ap u 0, !BL u 0) := by
      unfold CU
      rw [hgd, hl, hd]; rfl
     rw [hend]
     clear hend hwn hw
     generalize hN : Aj Ap u 0 = N at hwl hge1 hnx
     have hnb : BL u 0 = (decide (4 < N) || (decide (1 < N) && decide (c.toNat = 48)) || (decide (N < u.length) && (CH (u.getD N 0) || decide ((u.getD N 0).toNat = 95)))) := by
      unfold BL
      rw [hN, hgd, Nat.sub_zero]
     refine CE (α := Unit) (fun _ => [(0, AL u), (2, pt w.heap.size), (3, .bool false), (4, .int .i64 (N : Int)), (5, .bool (decide (N < u.length) && (CH (u.getD N 0) || decide ((u.getD N 0).toNat = 95))))]) (fun _ W => Ext w W ∧ Blk W w.heap.size 158 [.int .i64 0, AL [], .int .i64 0]) ?_ ?_
     ·by_cases hlt : N < u.length
      ·have hcn : u[N]? = some u[N] := List.getElem?_eq_getElem hlt
       generalize u[N] = d at hcn
       have hgn : u.getD N 0 = d := by simp [List.getD_eq_getElem?_getD, hcn]
       rw [hgn, decide_eq_true hlt, Bool.true_and]
       refine AA (AF rfl (AU rfl (Au rfl (BC rfl rfl (by omega) (AB rfl (AE rfl (AU rfl (AE rfl (AF rfl (AE rfl (BB rfl rfl (by assumption) ?_)))))))))))
       refine AE rfl (AS (rlow_ok d _) rfl ?_)
       rintro v w' ⟨rfl, rfl⟩
       cases hsd : A4 d with
       | true =>
        refine AE rfl (AB rfl (AI rfl (AI rfl (AI rfl (AI rfl (AE rfl (AK rfl (AB rfl (AE rfl (AB rfl (AI rfl (AI rfl (AI rfl (AI rfl (AE rfl (AK rfl (AB rfl (AK rfl (AB rfl (AC (AB rfl (AJ ?_))))))))))))))))))))))
        exact An () ⟨rfl, rfl, rfl, rfl, by simp [upd, Nat.beq, CH, hsd], trivial⟩ ⟨n1.keep, b1⟩
       | false =>
        refine AE rfl (AB rfl (AE rfl (AU rfl (AE rfl (AF rfl (AE rfl (BB rfl rfl (by assumption) ?_)))))))
        refine AE rfl (AS (rbig_ok d _) rfl ?_)
        rintro v w' ⟨rfl, rfl⟩
        cases hud : isUp d with
        | true =>
         refine AE rfl (AP rfl (AB rfl (AE rfl (AB rfl (AI rfl (AI rfl (AI rfl (AI rfl (AE rfl (AK rfl (AB rfl (AK rfl (AB rfl (AC (AB rfl (AJ ?_))))))))))))))))
         exact An () ⟨rfl, rfl, rfl, rfl, by simp [upd, Nat.beq, CH, hsd, hud], trivial⟩ ⟨n1.keep, b1⟩
        | false =>
         (refine AE rfl (AP rfl (AB rfl (AE rfl (AB rfl (AE rfl (AU rfl (AE rfl (AF rfl (AE rfl (BB rfl rfl (by assumption) ?_)))))))))) <;> (refine AE rfl ?_; (refine B0 rfl rfl (fun hc => ?_) (fun hc => ?_) <;> try omega)) <;> refine AE rfl (AP rfl (AB rfl (AK rfl (AB rfl (AC (AB rfl (AJ ?_))))))))
         all_goals exact An () ⟨rfl, rfl, rfl, rfl, by simp [upd, Nat.beq, CH, hsd, hud]; omega, trivial⟩ ⟨n1.keep, b1⟩
      ·rw [decide_eq_false hlt, Bool.false_and]
       refine AA (AF rfl (AU rfl (Au rfl (BA rfl rfl (by omega) (AB rfl (AI rfl (AI rfl (AI rfl ?_))))))))
       refine AI rfl (AI rfl (AI rfl (AI rfl (AI rfl (AI rfl (AI rfl (AI rfl (AI rfl (AI rfl (AI rfl (AI rfl (AI rfl (AP rfl (AB rfl (AC (AB rfl (AJ ?_)))))))))))))))))
       exact An () ⟨rfl, rfl, rfl, rfl, by simp [upd, Nat.beq], trivial⟩ ⟨n1.keep, b1⟩
     rintro _ w4 f4 ⟨k4, b4⟩
     repeat refine nx rfl ?_
     generalize (decide (N < u.length) && (CH (u.getD N 0) || decide ((u.getD N 0).toNat = 95))) = glued at hnb
     refine Bb (.read 0 (.read 1 (.read 2 (.read 3 (.read 4 (.read 5 (.read 6 (.read 7 (.read 8 (.read 9 (.read 10 (.read 11 (.read 12 (.read 13 (.read 14 (.read 15 (.read 16 (.read 17 (.read 18 (.alt 19 (.read 20 .done) .stop)))))))))))))))))))) BP (by kernel_rfl) (fun wd kd ed => ⟨Keep [w.heap.size] w4, ?_, ?_⟩)
     ·exact kd.any
     have b5 := b4.keep kd (by simp)
     have hfin : ∀ r : Bool, r = !BL u 0 → ∀ (f : Fr) (w6 : World), Put wd w6 w.heap.size 158 [.int .i64 2, AL (u.take N), .int .i64 0] → f 2 = pt w.heap.size → f 3 = .bool r →
       Cw Tryz.prog Tryz.f100 (fun v w' => Ext w w' ∧ v = .tuple #[.agg #[.int .i64 (CU u).1, AL (u.take (CU u).2.1), .int .i64 0], .bool (CU u).2.2]) (fun _ _ => False) .ret f [] w6 := by
      rintro r rfl f w6 p6 e2 e3
      refine CJ rfl e2 rfl p6.blk.cells ⟨(k4.trans kd).keep p6.keep (by simp), ?_⟩
      rw [hnx, e3]
     cases glued <;> by_cases h4 : N ≤ 4 <;> by_cases hN1 : N = 1 <;> by_cases h48 : c.toNat = 48
     all_goals try (exfalso; omega)
     all_goals
      (refine D_R rfl rfl (fun W hW => AU rfl Z3) (D_R rfl rfl (fun W hW => AF rfl Z3) (D_R rfl rfl (fun W hW => Cg rfl rfl (by omega) Z3) ?_)) <;> (apply D_R rfl rfl; (intro W hW; refine Ad (by rfl) (by rfl) ?_; exact Z3)) <;> refine D_R rfl rfl (fun W hW => AF rfl Z3) ?_ <;> (refine D_leq rfl rfl rfl rfl (fun hc => ?_) (fun hc => ?_) <;> try omega) <;> refine D_R rfl rfl (fun W hW => AB rfl Z3) ?_ <;> (first | refine Af rfl rfl rfl rfl ?_ | (apply D_R rfl rfl; (intro W hW; (refine AE rfl ?_; refine AB rfl ?_); exact AJ ⟨rfl, rfl, rfl⟩))) <;> (first | refine Af rfl rfl rfl rfl ?_ | (apply D_R rfl rfl; (intro W hW; (refine AE rfl ?_; refine A9 rfl ?_); exact AJ ⟨rfl, rfl, rfl⟩))) <;> (apply D_R rfl rfl; (intro W hW; ((first | refine AK rfl ?_ | refine AP rfl ?_); refine AB rfl ?_); exact Z3)) <;> refine D_R rfl rfl (fun W hW => AB rfl Z3) ?_ <;> (first | refine Af rfl rfl rfl rfl ?_ | (apply D_R rfl rfl; (intro W hW; (refine AE rfl ?_; refine AF rfl ?_); exact AJ ⟨rfl, rfl, rfl⟩))) <;> (first | refine Af rfl rfl rfl rfl ?_ | (refine D_eql rfl rfl rfl rfl (fun hc => ?_) (fun hc => ?_) <;> try omega)) <;> (first | refine Af rfl rfl rfl rfl ?_ | (apply D_R rfl rfl; (intro W hW; (refine AE rfl ?_; refine AB rfl ?_); exact AJ ⟨rfl, rfl, rfl⟩))) <;> (first | refine Af rfl rfl rfl rfl ?_ | (apply D_R rfl rfl; (intro W hW; refine AI rfl ?_; exact AJ ⟨rfl, rfl, rfl⟩)) | (apply D_R rfl rfl; (intro W hW; (refine AE rfl ?_; refine AU rfl ?_); exact AJ ⟨rfl, rfl, rfl⟩))) <;> (first | refine Af rfl rfl rfl rfl ?_ | (apply D_R rfl rfl; (intro W hW; refine AI rfl ?_; exact AJ ⟨rfl, rfl, rfl⟩)) | (apply D_R rfl rfl; (intro W hW; (refine AE rfl ?_; refine BB rfl rfl (by assumption) ?_); exact AJ ⟨rfl, rfl, rfl⟩))) <;> (first | refine Af rfl rfl rfl rfl ?_ | (apply D_R rfl rfl; (intro W hW; refine AI rfl ?_; exact AJ ⟨rfl, rfl, rfl⟩)) | (refine D_neq rfl rfl rfl rfl (fun hc => ?_) (fun hc => ?_) <;> try omega)) <;> (first | refine Af rfl rfl rfl rfl ?_ | (apply D_R rfl rfl; (intro W hW; (refine AE rfl ?_; ((first | refine AK rfl ?_ | refine AP rfl ?_); refine AB rfl ?_)); exact AJ ⟨rfl, rfl, rfl⟩))) <;> (apply D_R rfl rfl; (intro W hW; ((first | refine AK rfl ?_ | refine AP rfl ?_); refine AB rfl ?_); exact Z3)))
      refine D_E rfl ?_
      refine AZ (cs := [.int .i64 2, AL (u.take N), .int .i64 0]) rfl rfl rfl (BG rfl) b5 (by simp) (fun w6 p6 => ?_)
      refine AJ ⟨fun W => W = w6, fun W hW => hW ▸ (kd.any.trans p6.keep (by simp)), rfl, ?_⟩
      ((apply D_R rfl rfl; (intro W hW; subst hW; (refine AC ?_; refine AB rfl ?_); exact Z3)) <;> refine A8 ?_)
      repeat refine nx rfl ?_
      refine hfin _ ?_ _ w6 p6 rfl rfl
      rw [hnb]
      simp [upd, Nat.beq, h4, hN1, h48] <;> omega
   ·obtain rfl : n = u.length := by omega
    have hwn := whileB_end (p := Ap) (t := u) (a := u.length) (by omega)
    have hend : u.length = Aj Ap u 0 := by omega
    refine AA (AF rfl (AU rfl (Au rfl (BA rfl rfl (by omega) (AB rfl (AI rfl (AI rfl (AI rfl ?_))))))))
    refine AI rfl (AP rfl (AB rfl ?_))
    repeat first | refine nx rfl ?_ | refine nf rfl ?_
    have hwl := Bk (p := Ap) (t := u) (a := 0) (by omega)
    have hge1 : 1 ≤ Aj Ap u 0 := by
     have h1 := Bd (p := Ap) hc0 hd
     have h2 := Bv Ap u (0 + 1)
     omega
    have hnx : CU u = (2, Aj Ap u 0, !BL u 0) := by
     unfold CU
     rw [hgd, hl, hd]; rfl
    rw [hend]
    clear hend hwn hw
    generalize hN : Aj Ap u 0 = N at hwl hge1 hnx
    have hnb : BL u 0 = (decide (4 < N) || (decide (1 < N) && decide (c.toNat = 48)) || (decide (N < u.length) && (CH (u.getD N 0) || decide ((u.getD N 0).toNat = 95)))) := by
     unfold BL
     rw [hN, hgd, Nat.sub_zero]
    refine CE (α := Unit) (fun _ => [(0, AL u), (2, pt w.heap.size), (3, .bool false), (4, .int .i64 (N : Int)), (5, .bool (decide (N < u.length) && (CH (u.getD N 0) || decide ((u.getD N 0).toNat = 95))))]) (fun _ W => Ext w W ∧ Blk W w.heap.size 158 [.int .i64 0, AL [], .int .i64 0]) ?_ ?_
    ·by_cases hlt : N < u.length
     ·have hcn : u[N]? = some u[N] := List.getElem?_eq_getElem hlt
      generalize u[N] = d at hcn
      have hgn : u.getD N 0 = d := by simp [List.getD_eq_getElem?_getD, hcn]
      rw [hgn, decide_eq_true hlt, Bool.true_and]
      refine AA (AF rfl (AU rfl (Au rfl (BC rfl rfl (by omega) (AB rfl (AE rfl (AU rfl (AE rfl (AF rfl (AE rfl (BB rfl rfl (by assumption) ?_)))))))))))
      refine AE rfl (AS (rlow_ok d _) rfl ?_)
      rintro v w' ⟨rfl, rfl⟩
      cases hsd : A4 d with
      | true =>
       refine AE rfl (AB rfl (AI rfl (AI rfl (AI rfl (AI rfl (AE rfl (AK rfl (AB rfl (AE rfl (AB rfl (AI rfl (AI rfl (AI rfl (AI rfl (AE rfl (AK rfl (AB rfl (AK rfl (AB rfl (AC (AB rfl (AJ ?_))))))))))))))))))))))
       exact An () ⟨rfl, rfl, rfl, rfl, by simp [upd, Nat.beq, CH, hsd], trivial⟩ ⟨n1.keep, b1⟩
      | false =>
       refine AE rfl (AB rfl (AE rfl (AU rfl (AE rfl (AF rfl (AE rfl (BB rfl rfl (by assumption) ?_)))))))
       refine AE rfl (AS (rbig_ok d _) rfl ?_)
       rintro v w' ⟨rfl, rfl⟩
       cases hud : isUp d with
       | true =>
        refine AE rfl (AP rfl (AB rfl (AE rfl (AB rfl (AI rfl (AI rfl (AI rfl (AI rfl (AE rfl (AK rfl (AB rfl (AK rfl (AB rfl (AC (AB rfl (AJ ?_))))))))))))))))
        exact An () ⟨rfl, rfl, rfl, rfl, by simp [upd, Nat.beq, CH, hsd, hud], trivial⟩ ⟨n1.keep, b1⟩
       | false =>
        (refine AE rfl (AP rfl (AB rfl (AE rfl (AB rfl (AE rfl (AU rfl (AE rfl (AF rfl (AE rfl (BB rfl rfl (by assumption) ?_)))))))))) <;> (refine AE rfl ?_; (refine B0 rfl rfl (fun hc => ?_) (fun hc => ?_) <;> try omega)) <;> refine AE rfl (AP rfl (AB rfl (AK rfl (AB rfl (AC (AB rfl (AJ ?_))))))))
        all_goals exact An () ⟨rfl, rfl, rfl, rfl, by simp [upd, Nat.beq, CH, hsd, hud]; omega, trivial⟩ ⟨n1.keep, b1⟩
     ·rw [decide_eq_false hlt, Bool.false_and]
      refine AA (AF rfl (AU rfl (Au rfl (BA rfl rfl (by omega) (AB rfl (AI rfl (AI rfl (AI rfl ?_))))))))
      refine AI rfl (AI rfl (AI rfl (AI rfl (AI rfl (AI rfl (AI rfl (AI rfl (AI rfl (AI rfl (AI rfl (AI rfl (AI rfl (AP rfl (AB rfl (AC (AB rfl (AJ ?_)))))))))))))))))
      exact An () ⟨rfl, rfl, rfl, rfl, by simp [upd, Nat.beq], trivial⟩ ⟨n1.keep, b1⟩
    rintro _ w4 f4 ⟨k4, b4⟩
    repeat refine nx rfl ?_
    generalize (decide (N < u.length) && (CH (u.getD N 0) || decide ((u.getD N 0).toNat = 95))) = glued at hnb
    refine Bb (.read 0 (.read 1 (.read 2 (.read 3 (.read 4 (.read 5 (.read 6 (.read 7 (.read 8 (.read 9 (.read 10 (.read 11 (.read 12 (.read 13 (.read 14 (.read 15 (.read 16 (.read 17 (.read 18 (.alt 19 (.read 20 .done) .stop)))))))))))))))))))) BP (by kernel_rfl) (fun wd kd ed => ⟨Keep [w.heap.size] w4, ?_, ?_⟩)
    ·exact kd.any
    have b5 := b4.keep kd (by simp)
    have hfin : ∀ r : Bool, r = !BL u 0 → ∀ (f : Fr) (w6 : World), Put wd w6 w.heap.size 158 [.int .i64 2, AL (u.take N), .int .i64 0] → f 2 = pt w.heap.size → f 3 = .bool r →
      Cw Tryz.prog Tryz.f100 (fun v w' => Ext w w' ∧ v = .tuple #[.agg #[.int .i64 (CU u).1, AL (u.take (CU u).2.1), .int .i64 0], .bool (CU u).2.2]) (fun _ _ => False) .ret f [] w6 := by
     rintro r rfl f w6 p6 e2 e3
     refine CJ rfl e2 rfl p6.blk.cells ⟨(k4.trans kd).keep p6.keep (by simp), ?_⟩
     rw [hnx, e3]
    cases glued <;> by_cases h4 : N ≤ 4 <;> by_cases hN1 : N = 1 <;> by_cases h48 : c.toNat = 48
    all_goals try (exfalso; omega)
    all_goals
     (refine D_R rfl rfl (fun W hW => AU rfl Z3) (D_R rfl rfl (fun W hW => AF rfl Z3) (D_R rfl rfl (fun W hW => Cg rfl rfl (by omega) Z3) ?_)) <;> (apply D_R rfl rfl; (intro W hW; refine Ad (by rfl) (by rfl) ?_; exact Z3)) <;> refine D_R rfl rfl (fun W hW => AF rfl Z3) ?_ <;> (refine D_leq rfl rfl rfl rfl (fun hc => ?_) (fun hc => ?_) <;> try omega) <;> refine D_R rfl rfl (fun W hW => AB rfl Z3) ?_ <;> (first | refine Af rfl rfl rfl rfl ?_ | (apply D_R rfl rfl; (intro W hW; (refine AE rfl ?_; refine AB rfl ?_); exact AJ ⟨rfl, rfl, rfl⟩))) <;> (first | refine Af rfl rfl rfl rfl ?_ | (apply D_R rfl rfl; (intro W hW; (refine AE rfl ?_; refine A9 rfl ?_); exact AJ ⟨rfl, rfl, rfl⟩))) <;> (apply D_R rfl rfl; (intro W hW; ((first | refine AK rfl ?_ | refine AP rfl ?_); refine AB rfl ?_); exact Z3)) <;> refine D_R rfl rfl (fun W hW => AB rfl Z3) ?_ <;> (first | refine Af rfl rfl rfl rfl ?_ | (apply D_R rfl rfl; (intro W hW; (refine AE rfl ?_; refine AF rfl ?_); exact AJ ⟨rfl, rfl, rfl⟩))) <;> (first | refine Af rfl rfl rfl rfl ?_ | (refine D_eql rfl rfl rfl rfl (fun hc => ?_) (fun hc => ?_) <;> try omega)) <;> (first | refine Af rfl rfl rfl rfl ?_ | (apply D_R rfl rfl; (intro W hW; (refine AE rfl ?_; refine AB rfl ?_); exact AJ ⟨rfl, rfl, rfl⟩))) <;> (first | refine Af rfl rfl rfl rfl ?_ | (apply D_R rfl rfl; (intro W hW; refine AI rfl ?_; exact AJ ⟨rfl, rfl, rfl⟩)) | (apply D_R rfl rfl; (intro W hW; (refine AE rfl ?_; refine AU rfl ?_); exact AJ ⟨rfl, rfl, rfl⟩))) <;> (first | refine Af rfl rfl rfl rfl ?_ | (apply D_R rfl rfl; (intro W hW; refine AI rfl ?_; exact AJ ⟨rfl, rfl, rfl⟩)) | (apply D_R rfl rfl; (intro W hW; (refine AE rfl ?_; refine BB rfl rfl (by assumption) ?_); exact AJ ⟨rfl, rfl, rfl⟩))) <;> (first | refine Af rfl rfl rfl rfl ?_ | (apply D_R rfl rfl; (intro W hW; refine AI rfl ?_; exact AJ ⟨rfl, rfl, rfl⟩)) | (refine D_neq rfl rfl rfl rfl (fun hc => ?_) (fun hc => ?_) <;> try omega)) <;> (first | refine Af rfl rfl rfl rfl ?_ | (apply D_R rfl rfl; (intro W hW; (refine AE rfl ?_; ((first | refine AK rfl ?_ | refine AP rfl ?_); refine AB rfl ?_)); exact AJ ⟨rfl, rfl, rfl⟩))) <;> (apply D_R rfl rfl; (intro W hW; ((first | refine AK rfl ?_ | refine AP rfl ?_); refine AB rfl ?_); exact Z3)))
     refine D_E rfl ?_
     refine AZ (cs := [.int .i64 2, AL (u.take N), .int .i64 0]) rfl rfl rfl (BG rfl) b5 (by simp) (fun w6 p6 => ?_)
     refine AJ ⟨fun W => W = w6, fun W hW => hW ▸ (kd.any.trans p6.keep (by simp)), rfl, ?_⟩
     ((apply D_R rfl rfl; (intro W hW; subst hW; (refine AC ?_; refine AB rfl ?_); exact Z3)) <;> refine A8 ?_)
     repeat refine nx rfl ?_
     refine hfin _ ?_ _ w6 p6 rfl rfl
     rw [hnb]
     simp [upd, Nat.beq, h4, hN1, h48] <;> omega
  | false =>
   repeat first | refine nx rfl ?_ | refine nf rfl ?_
   refine AA (AU rfl ?_)
   refine AS (rsymbol_ok u _) rfl ?_
   rintro v w3 ⟨rfl, k3⟩
   refine AC (AU rfl ?_)
   repeat refine nx rfl ?_
   have b3 := b1.keep k3 (by simp)
   have htk : symW u = u.take (symW u).length := by
    unfold symW
    cases hf : symsL.find? (Br u) with
    | none => rfl
    | some y => exact (List.prefix_iff_eq_take.1 ((Cc _ _).1 (List.find?_some hf)))
   have hnx : CU u = (3, (symW u).length, !decide (symW u = [])) := by
    unfold CU
    rw [hgd, hl, hd]; rfl
   by_cases he : symW u = []
   ·(refine AA (AU rfl (Ad (by rfl) (by rfl) ?_)) <;> refine AU rfl ?_ <;> refine W_sneq rfl rfl (fun hc => ?_) (fun hc => ?_))
    ·exact absurd he (by assumption)
    ·refine AZ (cs := [.int .i64 3, AL (symW u), .int .i64 0]) rfl rfl rfl (BG rfl) b3 (by simp) (fun w4 p4 => ?_)
     have b4 : Blk w4 w.heap.size 158 [.int .i64 3, AL (symW u), .int .i64 0] := p4.blk
     refine AC (AB rfl ?_)
     repeat refine nx rfl ?_
     refine CJ rfl rfl rfl b4.cells ⟨(n1.keep.trans k3).keep p4.keep (by simp), ?_⟩
     rw [hnx]
     simp only
     rw [← htk, decide_eq_true he]; rfl
   ·(refine AA (AU rfl (Ad (by rfl) (by rfl) ?_)) <;> refine AU rfl ?_ <;> refine W_sneq rfl rfl (fun hc => ?_) (fun hc => ?_))
    ·refine AZ (cs := [.int .i64 3, AL (symW u), .int .i64 0]) rfl rfl rfl (BG rfl) b3 (by simp) (fun w4 p4 => ?_)
     have b4 : Blk w4 w.heap.size 158 [.int .i64 3, AL (symW u), .int .i64 0] := p4.blk
     refine AC (AB rfl ?_)
     repeat refine nx rfl ?_
     refine CJ rfl rfl rfl b4.cells ⟨(n1.keep.trans k3).keep p4.keep (by simp), ?_⟩
     rw [hnx]
     simp only
     rw [← htk, decide_eq_false he]; rfl
    ·exact absurd (by assumption) he
end Go.Proofs.YtfcgdbmoncnibaaGreatDoor
namespace Go.Proofs.YtfcgdbmoncnibaaGreatDoor
open Go.RowKit
set_option linter.unusedVariables false
variable {mk : Prop} [MK mk]
def kindOk (c : UInt8) : Bool := match C6 c with
 | some 0 => isBlank c
 | some 1 => decide (c.toNat = 37)
 | some 2 => CH c
 | some 3 => !CH c && Ap c
 | some _ => !CH c && !Ap c
 | none => !CH c && !Ap c && symsL.all (fun y => decide (y.head? ≠ some c))
def gapOk (c : UInt8) : Bool := (!isBlank c || decide (C6 c = some 0)) && (!decide (c.toNat = 37) || decide (C6 c = some 1))
theorem kinds_all : ∀ n : Fin 256, (kindOk (UInt8.ofNat n.val) && gapOk (UInt8.ofNat n.val)) = true := by decide +kernel
theorem kind_all (c : UInt8) : kindOk c = true ∧ gapOk c = true := by
 have h := kinds_all ⟨c.toNat, c.toNat_lt⟩
 rw [Bool.and_eq_true] at h
 have e : UInt8.ofNat c.toNat = c := by simp
 simp only [e] at h
 exact h
theorem kind_blank {c : UInt8} (h : isBlank c = true) : C6 c = some 0 := by
 have := (kind_all c).2
 simp only [gapOk, h, Bool.not_true, Bool.false_or, Bool.and_eq_true, decide_eq_true_eq] at this
 exact this.1
theorem kind_37 {c : UInt8} (h : c.toNat = 37) : C6 c = some 1 := by
 have := (kind_all c).2
 simp only [gapOk, h, decide_true, Bool.not_true, Bool.false_or, Bool.and_eq_true, decide_eq_true_eq] at this
 exact this.2
theorem drop_split (t : List UInt8) {a : Nat} (h : a ≤ t.length) : t = t.take a ++ t.drop a ∧ (t.take a).length = a := ⟨(List.take_append_drop a t).symm, by simp; omega⟩
theorem whileB_drop (q : UInt8 → Bool) (t : List UInt8) {a : Nat} (h : a ≤ t.length) (j : Nat) : Aj q t (a + j) = a + Aj q (t.drop a) j := by
 obtain ⟨h1, h2⟩ := drop_split t h
 have := DB (q := q) (t.take a) (t.drop a) j
 rw [← h1, h2] at this; exact this
theorem step_next (t : List UInt8) (a : Nat) (ts : List Tok) (ha : a < t.length) (h0 : C6 (t.getD a 0) ≠ some 0) (h1 : C6 (t.getD a 0) ≠ some 1) :
  BQ t a ts = if (CU (t.drop a)).2.2 = true then CY t a ts (CU (t.drop a)).1 (a + (CU (t.drop a)).2.1) else .error (40, a) := by
 have hg : (t.drop a).getD 0 0 = t.getD a 0 := by simp [List.getD_eq_getElem?_getD]
 have hk := (kind_all (t.getD a 0)).1
 unfold kindOk at hk
 unfold BQ CU
 rw [hg]
 split at hk
 ·rename_i e; exact absurd e h0
 ·rename_i e; exact absurd e h1
 ·rename_i e
  rw [e, if_pos hk]
  simp only [DZ]
  rw [whileB_drop BD t (by omega) 1]
  by_cases h20 : Aj BD (t.drop a) 1 ≤ 20
  ·rw [if_neg (by omega), if_pos (by simpa using h20)]
  ·rw [if_pos (by omega), if_neg (by simpa using h20)]
 ·rename_i e
  rw [e]
  rw [Bool.and_eq_true, Bool.not_eq_true'] at hk
  rw [hk.1, hk.2]
  simp only [Bool.false_eq_true, if_false, if_true, DX]
  obtain ⟨g1, g2⟩ := drop_split t (Nat.le_of_lt ha)
  have hnb : BL t a = BL (t.drop a) 0 := by
   have := numBad_sh (t.take a) (t.drop a) 0
   rw [← g1, g2] at this; exact this
  have hw := whileB_drop Ap t (Nat.le_of_lt ha) 0
  rw [Nat.add_zero] at hw
  rw [hnb, hw]
  cases BL (t.drop a) 0 <;> rfl
 ·rename_i k e0 e1 e2 e3 hkk
  simp only [Bool.and_eq_true, Bool.not_eq_true'] at hk
  rw [hk.1, hk.2]
  simp only [Bool.false_eq_true, if_false]
  have e0' : k ≠ 0 := e0
  have e1' : k ≠ 1 := e1
  have e2' : k ≠ 2 := e2
  have e3' : k ≠ 3 := e3
  obtain ⟨j, rfl⟩ : ∃ j, k = j + 4 := ⟨k - 4, by omega⟩
  rw [hkk]
  show symM t a ts = _
  unfold symM symW
  cases hf : symsL.find? (Br (t.drop a)) with
  | none => rfl
  | some y =>
   have hne : ∀ y ∈ symsL, y ≠ [] := by decide
   have := hne y (List.mem_of_find?_eq_some hf)
   simp [this]
 ·rename_i e
  simp only [Bool.and_eq_true, Bool.not_eq_true'] at hk
  rw [e, hk.1.1, hk.1.2]
  simp only [Bool.false_eq_true, if_false]
  have hf : symsL.find? (Br (t.drop a)) = none := by
   rw [List.find?_eq_none]
   intro y hy hp
   have h1 := (Cc _ _).1 hp
   have h2 := List.all_eq_true.1 hk.2 y hy
   have hne : ∀ y ∈ symsL, y ≠ [] := by decide
   match y, hne y hy, h1, h2 with
   | d :: y, _, h1, h2 =>
    obtain ⟨r, hr⟩ := h1
    have : (t.drop a).head? = some d := by rw [← hr]; rfl
    have hc : t[a]? = some t[a] := List.getElem?_eq_getElem ha
    rw [List.head?_drop, hc] at this
    rw [DQ hc] at h2
    simp at h2
    exact h2 (Option.some.inj this).symm
  unfold symW
  rw [hf]
  rfl
theorem gapW_ge (t : List UInt8) : ∀ (m a : Nat), t.length - a ≤ m → a ≤ t.length → a ≤ gapW t a ∧ gapW t a ≤ t.length ∧ gapW t (gapW t a) = gapW t a := by
 intro m
 induction m with
 | zero =>
  intro a hm ha
  obtain rfl : a = t.length := by omega
  rw [gapW_end]
  exact ⟨Nat.le_refl _, Nat.le_refl _, gapW_end⟩
 | succ m ih =>
  intro a hm ha
  by_cases h : a < t.length
  ·have hc : t[a]? = some t[a] := List.getElem?_eq_getElem h
   rw [gapW_step hc]
   split
   ·rename_i h37
    have h1 := Bk (p := BN) (t := t) (a := a) (by omega)
    have h2 := Bd (p := BN) hc (by simp [BN, h37])
    have h3 := Bv BN t (a + 1)
    have := ih (Aj BN t a) (by omega) h1
    exact ⟨by omega, this.2⟩
   ·split
    ·have := ih (a + 1) (by omega) (by omega)
     exact ⟨by omega, this.2⟩
    ·rename_i h1 h2
     refine ⟨Nat.le_refl _, by omega, ?_⟩
     rw [gapW_step hc, if_neg h1, if_neg h2]
  ·obtain rfl : a = t.length := by omega
   rw [gapW_end]
   exact ⟨Nat.le_refl _, Nat.le_refl _, gapW_end⟩
theorem scan_gap (t : List UInt8) (ts : List Tok) : ∀ (m a : Nat), t.length - a ≤ m → a ≤ t.length → scanW t a ts = scanW t (gapW t a) ts := by
 intro m
 induction m with
 | zero =>
  intro a hm ha
  obtain rfl : a = t.length := by omega
  rw [gapW_end]
 | succ m ih =>
  intro a hm ha
  by_cases h : a < t.length
  ·have hc : t[a]? = some t[a] := List.getElem?_eq_getElem h
   have hg : t.getD a 0 = t[a] := DQ hc
   rw [gapW_step hc]
   split
   ·rename_i h37
    have h1 := Bk (p := BN) (t := t) (a := a) (by omega)
    have h2 := Bd (p := BN) hc (by simp [BN, h37])
    have h3 := Bv BN t (a + 1)
    rw [C1 h]
    have : BQ t a ts = .ok (Aj BN t a, ts) := by unfold BQ; rw [hg, kind_37 h37]; rfl
    rw [this]
    exact ih _ (by omega) h1
   ·split
    ·rename_i hb
     rw [C1 h]
     have : BQ t a ts = .ok (a + 1, ts) := by unfold BQ; rw [hg, kind_blank hb]; rfl
     rw [this]
     exact ih _ (by omega) (by omega)
    ·rfl
  ·obtain rfl : a = t.length := by omega
   rw [gapW_end]
theorem gap_stop {t : List UInt8} {i : Nat} (hi : i < t.length) (h : gapW t i = i) : C6 (t.getD i 0) ≠ some 0 ∧ C6 (t.getD i 0) ≠ some 1 := by
 have hc : t[i]? = some t[i] := List.getElem?_eq_getElem hi
 have hg : t.getD i 0 = t[i] := DQ hc
 rw [gapW_step hc] at h
 rw [hg]
 refine ⟨fun e => ?_, fun e => ?_⟩
 ·obtain ⟨h1, h2⟩ := kindB_0 e
  rw [if_neg h1, if_pos h2] at h
  have := (gapW_ge t _ (i + 1) (Nat.le_refl _) (by omega)).1
  omega
 ·have h37 := kindB_1 e
  rw [if_pos h37] at h
  have h1 := Bk (p := BN) (t := t) (a := i) (by omega)
  have h2 := Bd (p := BN) hc (by simp [BN, h37])
  have h3 := Bv BN t (i + 1)
  have := (gapW_ge t _ (Aj BN t i) (Nat.le_refl _) h1).1
  omega
theorem gapW_drop (t : List UInt8) {a : Nat} (h : a ≤ t.length) : gapW t a = a + gapW (t.drop a) 0 := by
 obtain ⟨h1, h2⟩ := drop_split t h
 have := gapW_sh (t.take a) (t.drop a) 0 (by omega)
 rw [← h1, h2, Nat.add_zero] at this; exact this
theorem nextM_pos {u : List UInt8} (h : 1 ≤ u.length) (hr : (CU u).2.2 = true) : 1 ≤ (CU u).2.1 ∧ (CU u).2.1 ≤ u.length := by
 unfold CU at hr ⊢
 split
 ·have := Bv BD u 1
  have := Bk (p := BD) (t := u) (a := 1) h
  simp only; omega
 ·split
  ·rename_i hd
   have hc : u[0]? = some u[0] := List.getElem?_eq_getElem (by omega)
   rw [DQ hc] at hd
   have := Bd (p := Ap) hc hd
   have := Bv Ap u (0 + 1)
   have := Bk (p := Ap) (t := u) (a := 0) (by omega)
   simp only; omega
  ·rename_i h1 h2
   rw [if_neg h1, if_neg h2] at hr
   simp only [Bool.not_eq_true', decide_eq_false_iff_not] at hr
   simp only
   have hl : (symW u).length ≤ u.length := by
    unfold symW
    cases hf : symsL.find? (Br u) with
    | none => simp
    | some y => exact ((Cc _ _).1 (List.find?_some hf)).length_le
   have : (symW u).length ≠ 0 := fun e => hr (List.eq_nil_of_length_eq_zero e)
   omega
theorem madeTok : (madeCells (Value.agg #[.int .i64 0, AL [], .int .i64 0]).cells (1 * 3)).toList = [.int .i64 0, AL [], .int .i64 0] := by kernel_rfl
theorem reflex_ok (w : World) (t : List UInt8) : Fn Tryz.prog 58 [AL t] w fun v w' => ∃ a c e q ts, v = .tuple #[.slice a ts.length c, .int .i64 e, .int .i64 q] ∧ Ext w w' ∧ Toks w' a c ts ∧
  ((DK t = .ok ts ∧ e = 0 ∧ q = -1) ∨ ∃ p : Nat, DK t = .error (e, p) ∧ e ≠ 0 ∧ q = (p : Int) ∧ ts = []) := by
 have hnil : ∀ W : World, Toks W none 0 [] := fun W => ⟨none, 0, rfl, by simp, by omega, fun _ => rfl, .inl rfl⟩
 refine Ab Tryz.func58 rfl Tryz.ntmps58 (Nat.le_of_ble_eq_true rfl) (by kernel_rfl) ?_
 repeat refine nx rfl ?_
 refine AA (AC (Ae rfl (AC (AF rfl (AC (AF rfl ?_))))))
 repeat refine nx rfl ?_
 by_cases hl : 6000 < t.length
 ·refine AA (AU rfl (Au rfl (DI rfl rfl (by omega) ?_)))
  repeat refine nx rfl ?_
  refine AA (AC (Ae rfl (AC (AF rfl (AC (AF rfl ?_))))))
  repeat refine nx rfl ?_
  exact fin_ret3 rfl ⟨none, 0, 2, 6000, [], rfl, Ext.refl _, hnil _, .inr ⟨6000, by unfold DK; rw [if_pos hl], by decide, rfl, rfl⟩⟩
 have hlex := lexM_of (t := t) (by omega)
 refine AA (AU rfl (Au rfl (DF rfl rfl (by omega) ?_)))
 repeat first | refine nx rfl ?_ | refine nf rfl ?_
 refine AA ?_
 refine AV (out := []) rfl (by omega) (by kernel_rfl) (fun w1 n1 => ?_)
 have o1 := n1.own (n := 0) (size := 3) rfl (by unfold maxLen; omega) (Nat.le_refl _)
 have z1 := n1.size
 refine AC (Ae rfl ?_)
 repeat refine nx rfl ?_
 refine AA (AU rfl ?_)
 refine AS (gap_ok t w1 (by omega)) rfl ?_
 rintro v w2 ⟨rfl, rfl⟩
 refine AC (AF rfl ?_)
 repeat refine nx rfl ?_
 have hg0 := gapW_ge t _ 0 (Nat.le_refl _) (by omega)
 have hsg0 := scan_gap t [] _ 0 (Nat.le_refl _) (by omega)
 refine BJ (α := Nat × Value × List Tok) (fun x => [(0, AL t), (5, x.2.1), (6, .int .i64 (x.1 : Int))])
  (fun x W => x.1 ≤ t.length ∧ gapW t x.1 = x.1 ∧ x.2.2.length ≤ 2000 ∧ Ext w W ∧ w.heap.size < W.heap.size ∧ W.ownsRow w.heap.size 158 3 x.2.1 x.2.2.length (C3 x.2.2) ∧ scanW t 0 [] = scanW t x.1 x.2.2) (fun x => t.length - x.1)
  (gapW t 0, .slice (some ⟨w.heap.size, 0, none⟩) 0 0, []) ⟨rfl, rfl, rfl, trivial⟩ ⟨hg0.2.1, hg0.2.2, by simp, n1.keep, by omega, o1, hsg0⟩ ?_
 rintro ⟨i, ov, ts⟩ w3 f3 ⟨hi, hgi, hc3, k3, z3, o3, hscan⟩
 simp only at hi hgi hc3 k3 z3 o3 hscan ⊢
 obtain ⟨oa, oc, rfl⟩ : ∃ oa oc, ov = .slice oa ts.length oc := by
  rcases o3.2 with ⟨rfl, h0⟩ | ⟨g, cap, cur, rfl, _⟩
  ·exact ⟨none, 0, by rw [h0]⟩
  ·exact ⟨_, _, rfl⟩
 repeat refine nx rfl ?_
 by_cases hlt : i < t.length
 ·have hdl : (t.drop i).length = t.length - i := by simp
  obtain ⟨hk0, hk1⟩ := gap_stop hlt hgi
  have hstep := step_next t i ts hlt hk0 hk1
  refine AA (AF rfl (AU rfl (Au rfl (BC rfl rfl (by omega) ?_))))
  repeat refine nx rfl ?_
  refine AA (AU rfl (AF rfl (W_sslice_l rfl rfl (by omega) ?_)))
  refine AS (rnext_ok (t.drop i) w3 (by omega) (by omega)) rfl ?_
  rintro v w4 ⟨k4, rfl⟩
  generalize hnx : CU (t.drop i) = x at hstep
  obtain ⟨kd, n, ok⟩ := x
  simp only at hstep
  have htext : (t.drop i).take n = (t.take (i + n)).drop i := by rw [List.drop_take]; congr 1; omega
  refine Bp rfl (Ag rfl rfl (Ag rfl rfl ?_))
  refine BE (cs := [.int .i64 kd, AL ((t.drop i).take n), .int .i64 0]) rfl rfl (by rfl) (BG rfl) (fun w5 n5 => ?_)
  have b5 := n5.blk
  have k5 : Ext w3 w5 := k4.trans n5.keep
  have z5 := k5.size
  have z45 := k4.size
  refine AC (AB rfl ?_)
  repeat refine nx rfl ?_
  refine AA (AB rfl (A9 rfl (AJ ?_)))
  cases ok with
  | false =>
   rw [if_neg (by simp)] at hstep
   repeat refine nx rfl ?_
   refine AA (AF rfl (AC (Ae rfl (AC (AF rfl (AC (AF rfl ?_)))))))
   repeat refine nx rfl ?_
   refine fin_ret3 rfl ⟨none, 0, 40, i, [], rfl, k3.trans k5, hnil _, .inr ⟨i, ?_, by decide, rfl, rfl⟩⟩
   rw [hlex, hscan, C1 hlt, hstep]
  | true =>
   rw [if_pos rfl] at hstep
   have hpos := nextM_pos (u := t.drop i) (by omega) (by rw [hnx])
   rw [hnx, hdl] at hpos
   simp only at hpos
   have htl : ((t.drop i).take n).length = n := by simp; omega
   repeat first | refine nx rfl ?_ | refine nf rfl ?_
   by_cases h2000 : ts.length = 2000
   ·have e : CY t i ts kd (i + n) = .error (2, i) := by unfold CY; rw [if_pos h2000]
    rw [e] at hstep
    refine AA (Ae rfl (As rfl (Av rfl rfl (by omega) ?_)))
    repeat refine nx rfl ?_
    refine AA (AF rfl (AC (Ae rfl (AC (AF rfl (AC (AF rfl ?_)))))))
    repeat refine nx rfl ?_
    refine fin_ret3 rfl ⟨none, 0, 2, i, [], rfl, k3.trans k5, hnil _, .inr ⟨i, ?_, by decide, rfl, rfl⟩⟩
    rw [hlex, hscan, C1 hlt, hstep]
   ·have e : CY t i ts kd (i + n) = .ok (i + n, ts ++ [⟨kd, (t.take (i + n)).drop i, i⟩]) := by unfold CY; rw [if_neg h2000]
    rw [e, ← htext] at hstep
    generalize hT : (t.drop i).take n = y at hstep b5 htl
    refine AA (Ae rfl (As rfl (AN rfl rfl (by omega) ?_)))
    repeat first | refine nx rfl ?_ | refine nf rfl ?_
    refine AA (AF rfl (AD rfl ?_))
    refine Ao rfl rfl rfl b5 (by simp) (fun w6 p6 => ?_)
    have b6 : Blk w6 w4.heap.size 158 [.int .i64 kd, AL y, .int .i64 (i : Int)] := p6.blk
    have k6 : Ext w3 w6 := k5.keep p6.keep (by simp <;> omega)
    have z6 := p6.size
    repeat refine nx rfl ?_
    refine AA (Ae rfl (AX rfl (by assumption) (by rfl) ?_))
    refine AV (out := tokC ⟨kd, y, i⟩) rfl (by omega) (by rw [madeTok]; rfl) (fun w7 n7 => ?_)
    have o7 := n7.own (n := 1) (size := 3) rfl (by unfold maxLen; omega) (Nat.le_refl _)
    have z7 := n7.size
    have k7 : Ext w3 w7 := k6.trans n7.keep
    have b7 := b6.keep n7.keep (by simp)
    have hown : ∀ x ∈ (Value.slice oa ts.length oc).ownBlock.toList, w.heap.size ≤ x ∧ x < w3.heap.size := fun x hx => BM o3 (Option.mem_toList.1 hx)
    refine Bl (ok := A0) (v := .slice oa ts.length oc) rfl rfl (BX o3 k7) (A3 o7 fun _ _ => trivial) (by omega) rfl rfl (BG rfl) (by omega) (by omega) (by omega) (fun v8 w8 a8 => ?_)
    have o8 := a8.own
    have z8 := a8.keep.size
    have b8 := b7.keep a8.keep (fun hx => by have := hown _ hx; omega)
    have k8 : Ext w w8 := (k3.trans k7).keep a8.keep (fun x hx => (hown x hx).1)
    refine AC (Az ?_)
    repeat refine nx rfl ?_
    (refine AA (AF rfl (AD rfl (AG rfl (Blk.cell (by assumption) (by rfl)) ?_))) <;> refine Au rfl (BK rfl rfl (by first | exact Am (by omega) (by omega) | exact At (by omega) (by omega) | exact Al (by omega) (by omega)) ?_) <;> refine AC (AF rfl ?_))
    repeat refine nx rfl ?_
    have hin : (i : Int) + (y.length : Int) = ((i + n : Nat) : Int) := by rw [htl]; omega
    rw [hin]
    refine AA (AF rfl (AU rfl (AF rfl (W_sslice_l rfl rfl (by omega) ?_))))
    refine AS (gap_ok (t.drop (i + n)) w8 (by simp; omega)) rfl ?_
    rintro v w9 ⟨rfl, rfl⟩
    have hgd := gapW_drop t (a := i + n) (by omega)
    have hgg := gapW_ge t _ (i + n) (Nat.le_refl _) (by omega)
    have hsg := scan_gap t (ts ++ [⟨kd, y, i⟩]) _ (i + n) (Nat.le_refl _) (by omega)
    (refine BK rfl rfl (by first | exact Am (by omega) (by omega) | exact At (by omega) (by omega) | exact Al (by omega) (by omega)) ?_ <;> refine AC (AF rfl ?_))
    repeat refine nx rfl ?_
    refine ⟨(gapW t (i + n), v8, ts ++ [⟨kd, y, i⟩]), ⟨rfl, ⟨rfl, rfl, ?_, trivial⟩, ⟨hgg.2.1, hgg.2.2, by simp; omega, k8, by omega, ?_, ?_⟩⟩, by simp only; omega⟩
    ·show Value.int .i64 (((i + n : Nat) : Int) + (gapW (t.drop (i + n)) 0 : Int)) = _
     rw [hgd]; rw [← Int.natCast_add]
    ·have e1 : C3 (ts ++ [⟨kd, y, i⟩]) = C3 ts ++ tokC ⟨kd, y, i⟩ := by simp [C3]
     rw [e1, List.length_append]
     exact o8
    ·rw [hscan, C1 hlt, hstep]
     exact hsg
 ·obtain rfl : i = t.length := by omega
  refine AA (AF rfl (AU rfl (Au rfl (BA rfl rfl (by omega) ?_))))
  repeat first | refine nx rfl ?_ | refine nf rfl ?_
  refine AA (Ae rfl (AC (Ae rfl (AC (AF rfl (AC (AF rfl ?_)))))))
  repeat refine nx rfl ?_
  refine fin_ret3 rfl ⟨oa, oc, 0, -1, ts, rfl, k3, A3 (ok := A0) o3 (fun _ _ => trivial), .inl ⟨?_, rfl, rfl⟩⟩
  rw [hlex, hscan, scanW_end]
end Go.Proofs.YtfcgdbmoncnibaaGreatDoor
namespace Go.Proofs.YtfcgdbmoncnibaaGreatDoor
open Go.RowKit
set_option linter.unusedVariables false
def longM (t : List UInt8) : Bool := decide (9000 < t.length) || (match DK t with | .error e => decide (e.1 = 2) | .ok _ => false)
theorem long_ok (w : World) (t : List UInt8) : Fn Tryz.prog 24 [AL t] w fun u w' => u = .bool (longM t) ∧ Ext w w' := by
 refine Ab Tryz.func24 rfl Tryz.ntmps24 (Nat.le_of_ble_eq_true rfl) (by kernel_rfl) ?_
 repeat refine nx rfl ?_
 refine AA (AC (AB rfl ?_))
 repeat refine nx rfl ?_
 (refine AA (AU rfl (Au rfl ?_)) <;> (refine W_gtr rfl rfl (fun hc => ?_) (fun hc => ?_) <;> try omega))
 ·repeat refine nx rfl ?_
  refine AA (AC (AB rfl ?_))
  repeat refine nx rfl ?_
  refine AO rfl ⟨?_, Ext.refl _⟩
  unfold longM
  rw [decide_eq_true (by omega)]; rfl
 repeat first | refine nx rfl ?_ | refine nf rfl ?_
 refine AA (AU rfl ?_)
 refine AS (reflex_ok w t) rfl ?_
 rintro _ w1 ⟨a, c, e, q, ts, rfl, k1, _, h⟩
 refine Bp rfl (Ag rfl rfl (Ag rfl rfl (Ag rfl rfl (AC (Ae rfl (AC (AF rfl (AC (AF rfl ?_)))))))))
 repeat refine nx rfl ?_
 have hd : decide (9000 < t.length) = false := decide_eq_false (by omega)
 rcases h with ⟨hm, rfl, _⟩ | ⟨p, hm, _, _, _⟩
 ·refine AA (AF rfl (AN rfl rfl (by omega) (AC (AB rfl ?_))))
  repeat refine nx rfl ?_
  refine AO rfl ⟨?_, k1⟩
  unfold longM
  rw [hd, hm]; rfl
 ·by_cases he : e = 2
  ·refine AA (AF rfl (Av rfl rfl (by omega) (AC (AB rfl ?_))))
   repeat refine nx rfl ?_
   refine AO rfl ⟨?_, k1⟩
   unfold longM
   rw [hd, hm]; simp [he]; rfl
  ·refine AA (AF rfl (AN rfl rfl (by omega) (AC (AB rfl ?_))))
   repeat refine nx rfl ?_
   refine AO rfl ⟨?_, k1⟩
   unfold longM
   rw [hd, hm]; simp [he]; rfl
theorem not_long {nt : NT} {t : List UInt8} {v : nt.T} (h : (∃ p, DK t = .error (2, p)) ∨ PRes nt t (.ok v)) (hl : longM t = false) : PRes nt t (.ok v) := by
 refine h.resolve_left ?_
 rintro ⟨p, e⟩
 unfold longM at hl
 rw [e] at hl; simp at hl
theorem fit_any {α : Type} (R : Rp α) {ok : Nat → Prop} {w w' : World} {c : List Value} {a : α} (h : R.fits ok w c a) (k : Ext w w') : R.fits A0 w' c a := R.mono (R.ext h k) fun _ _ => trivial
theorem fT_eq {f : Fml} (h : okF f = true) : fT f = prF 0 f := by unfold fT; rw [if_pos h]
theorem sT_eq {s : Spc} (h : CL s = true) : sT s = spcT s := by unfold sT; rw [if_pos h]
end Go.Proofs.YtfcgdbmoncnibaaGreatDoor
namespace Go.Proofs.YtfcgdbmoncnibaaGreatDoor
set_option linter.unusedVariables false
def Ord : List UInt8 → List Fml → Prop
 | _, [] => True
 | s, a :: l => ∃ u v, s = u ++ (prF 0 a ++ v) ∧ Ord v l
theorem Ord.pre {x s : List UInt8} : ∀ {l : List Fml}, Ord s l → Ord (x ++ s) l
 | [], _ => trivial
 | a :: l, h => by
  obtain ⟨u, v, rfl, h⟩ := h
  exact ⟨x ++ u, v, by simp, h⟩
theorem Ord.at {n : Nat} {a : Fml} {s : List UInt8} {l : List Fml} (h : Ord s l) : Ord (prF n a ++ s) (a :: l) := by
 rw [prF_at n a]
 split
 ·exact ⟨[40], [41] ++ s, by simp, h.pre⟩
 ·exact ⟨[], s, rfl, h⟩
theorem ord_R (next : Nat) (sg : List UInt8) : ∀ l : List Fml, Ord (prR next sg l) l
 | [] => trivial
 | a :: l => by
  simp only [prR]
  exact ((ord_R next sg l).at).pre
theorem ord_F (f : Fml) : Ord (prF 0 f) f.args := by
 obtain ⟨op, nm, v, b, args⟩ := f
 simp only [prF, Fml.args, Nat.not_lt_zero, decide_false, wrapT, Bool.false_eq_true, if_false]
 cases args with
 | nil => trivial
 | cons a l =>
  simp only [prA]
  exact ((ord_R _ _ l).at).pre
def Occ (s p : List UInt8) (i : Nat) : Prop := i + p.length ≤ s.length ∧ (s.drop i).take p.length = p
theorem occ_of (u p v : List UInt8) : Occ (u ++ (p ++ v)) p u.length := by
 refine ⟨by simp, ?_⟩
 simp
theorem ord_step {s x : List UInt8} {a : Fml} {l : List Fml} (h : Ord x (a :: l)) {u : List UInt8} (e : s = u ++ x) {i : Nat} (him : i ≤ u.length) :
  ∃ j, i ≤ j ∧ Occ s (prF 0 a) j ∧ ∀ m, m ≤ j → ∃ u' x', s = u' ++ x' ∧ m + (prF 0 a).length ≤ u'.length ∧ Ord x' l := by
 obtain ⟨y, v, rfl, hv⟩ := h
 refine ⟨(u ++ y).length, by simp; omega, ?_, fun m hm => ⟨u ++ y ++ prF 0 a, v, by rw [e]; simp, by simp at hm ⊢; omega, hv⟩⟩
 have := occ_of (u ++ y) (prF 0 a) v
 rw [e]
 simpa using this
end Go.Proofs.YtfcgdbmoncnibaaGreatDoor
namespace Go.Proofs.YtfcgdbmoncnibaaGreatDoor
open Go.RowKit
set_option linter.unusedVariables false
theorem occ_cut {s p : List UInt8} {k : Nat} : (s.take (k + p.length)).drop k = p ↔ (s.drop k).take p.length = p := by
 rw [List.drop_take, Nat.add_sub_cancel_left]
theorem find_ok (w : World) (s p : List UInt8) (i : Nat) (hs : s.length ≤ 10000000) (hp : p.length ≤ 10000000) (hi : i ≤ 10000000) : Fn Tryz.prog 21 [AL s, AL p, .int .i64 (i : Int)] w fun u w' => w' = w ∧
  ((∃ j : Nat, u = .int .i64 (j : Int) ∧ i ≤ j ∧ Occ s p j ∧ ∀ m, i ≤ m → m < j → ¬ Occ s p m) ∨ (u = .int .i64 (-1) ∧ ∀ m, i ≤ m → ¬ Occ s p m)) := by
 refine Ab Tryz.func21 rfl Tryz.ntmps21 (Nat.le_of_ble_eq_true rfl) (by kernel_rfl) ?_
 repeat refine nx rfl ?_
 refine AA (AC (AF rfl ?_))
 repeat refine nx rfl ?_
 refine AA (AF rfl (AC (AF rfl ?_)))
 repeat refine nx rfl ?_
 refine BJ (α := Nat) (fun k => [(0, AL s), (1, AL p), (7, .int .i64 (k : Int))]) (fun k W => i ≤ k ∧ k ≤ 10000001 ∧ w = W ∧ ∀ m, i ≤ m → m < k → ¬ Occ s p m) (fun k => s.length + 1 - k) i ⟨rfl, rfl, rfl, trivial⟩ ⟨Nat.le_refl _, by omega, rfl, fun m h1 h2 => by omega⟩ ?_
 rintro k _ f1 ⟨hik, hk, rfl, hno⟩
 repeat refine nx rfl ?_
 (refine AA (AF rfl (AU rfl (Au rfl (BK rfl rfl (by first | exact Am (by omega) (by omega) | exact At (by omega) (by omega) | exact Al (by omega) (by omega)) ?_)))) <;> refine AU rfl (Au rfl ?_) <;> (refine W_leq rfl rfl (fun hc => ?_) (fun hc => ?_) <;> try omega) <;> refine AJ ?_)
 ·have hle : k + p.length ≤ s.length := by omega
  repeat refine nx rfl ?_
  refine AA (AU rfl (AF rfl (AF rfl (AU rfl (Au rfl (BK rfl rfl (by first | exact Am (by omega) (by omega) | exact At (by omega) (by omega) | exact Al (by omega) (by omega)) ?_))))))
  refine W_sslice_lh (l := k) (h' := k + p.length) rfl rfl rfl (by omega) (by omega) ?_
  (refine AU rfl ?_ <;> refine CM rfl rfl (fun hc => ?_) (fun hc => ?_) <;> refine AJ ?_)
  ·have hocc : Occ s p k := ⟨hle, occ_cut.1 (by assumption)⟩
   repeat refine nx rfl ?_
   refine AA (AF rfl (AC (AF rfl ?_)))
   repeat refine nx rfl ?_
   exact AO rfl ⟨rfl, .inl ⟨k, rfl, hik, hocc, hno⟩⟩
  ·have hocc : ¬ Occ s p k := fun h => absurd (occ_cut.2 h.2) (by assumption)
   repeat first | refine nx rfl ?_ | refine nf rfl ?_
   (refine AA (AF rfl (BK rfl rfl (by first | exact Am (by omega) (by omega) | exact At (by omega) (by omega) | exact Al (by omega) (by omega)) ?_)) <;> refine AC (AF rfl ?_))
   repeat refine nx rfl ?_
   refine ⟨k + 1, ⟨rfl, ⟨rfl, rfl, ?_, trivial⟩, ⟨by omega, by omega, rfl, fun m h1 h2 => ?_⟩⟩, by omega⟩
   ·show Value.int .i64 ((k : Int) + 1) = _
    rw [Int.natCast_add]; rfl
   ·by_cases hm : m = k
    ·subst hm; exact hocc
    ·exact hno m h1 (by omega)
 ·repeat first | refine nx rfl ?_ | refine nf rfl ?_
  refine AA (AC (AF rfl ?_))
  repeat refine nx rfl ?_
  refine AO rfl ⟨rfl, .inr ⟨rfl, fun m h1 h2 => ?_⟩⟩
  by_cases hm : m < k
  ·exact hno m h1 hm h2
  ·have := h2.1
   omega
theorem ord_next {s x : List UInt8} {a : Fml} {l : List Fml} (h : Ord x (a :: l)) {u : List UInt8} (e : s = u ++ x) {i j : Nat} (hi : i ≤ u.length) (hmin : ∀ m, i ≤ m → m < j → ¬ Occ s (prF 0 a) m) : ∃ u' x', s = u' ++ x' ∧ j + (prF 0 a).length ≤ u'.length ∧ Ord x' l := by
 obtain ⟨j', h1, h2, h3⟩ := ord_step h e hi
 refine h3 j ?_
 by_cases hj : j' < j
 ·exact absurd h2 (hmin j' h1 hj)
 ·omega
theorem ord_some {s x : List UInt8} {a : Fml} {l : List Fml} (h : Ord x (a :: l)) {u : List UInt8} (e : s = u ++ x) {i : Nat} (hi : i ≤ u.length) : ¬ ∀ m, i ≤ m → ¬ Occ s (prF 0 a) m := fun hn => by
 obtain ⟨j', h1, h2, _⟩ := ord_step h e hi
 exact hn j' h1 h2
theorem apps_fits {v : Value} {l m : List Rqm} {L M : List (List Value)} {w : World} {B : Nat} (h : w.ownsRow B 30 8 v (l.length + m.length) (L.flatten ++ M.flatten)) (hL : RsAt reqR A0 w L l) (hM : RsAt reqR A0 w M m) : SlAt reqR A0 w v (l ++ m) := by
 have hS := A3 (ok := A0) h (fun _ _ => trivial)
 obtain ⟨a, cc, e, h1, h2, h3, h4⟩ := hS
 refine ⟨a, cc, L ++ M, by rw [e]; simp, ⟨a, cc, by rw [e]; simp, by simpa using h1, h2, h3, ?_⟩, ?_⟩
 ·simpa using h4
 ·refine ⟨by simp [hL.1, hM.1], fun i c x hc hx => ?_⟩
  by_cases hi : i < L.length
  ·rw [List.getElem?_append_left hi] at hc
   rw [List.getElem?_append_left (by rw [← hL.1]; exact hi)] at hx
   exact hL.2 i c x hc hx
  ·rw [List.getElem?_append_right (by omega)] at hc
   rw [List.getElem?_append_right (by rw [← hL.1]; omega), ← hL.1] at hx
   exact hM.2 _ c x hc hx
theorem tail_fits {w : World} {v : Value} {l : List Rqm} (h : SlAt reqR A0 w v l) : spcR.fits A0 w [.slice none 0 0, v] ⟨[], l⟩ :=
 ⟨_, _, rfl, ⟨none, 0, [], rfl, ⟨none, 0, rfl, by simp, by omega, fun _ => rfl, .inl rfl⟩, RsAt.nil⟩, h⟩
theorem back_B {s : Spc} {l : List Rqm} (hs : CL s = true) (hl : CL ⟨[], l⟩ = true) (hg : longM (spcT s ++ spcT ⟨[], l⟩) = false) {o : Out Spc} (h : PRes .spec (spcT s ++ spcT ⟨[], l⟩) o) : o = .ok ⟨s.sigs, s.reqs ++ l⟩ := h.det (not_long (spc_both hs hl) hg)
theorem own_ne {w w' : World} {B e size n p : Nat} {v v' : Value} {xs : List Value} (a : Apd w w' B e size v v' n xs) (h : ∀ g, v.ownBlock = some g → g ≠ p) (hp : p < w.heap.size) : ∀ g, v'.ownBlock = some g → g ≠ p := fun g hg => by
 rcases a.blk with h1 | h1
 ·exact h g (h1 ▸ hg)
 ·rw [h1] at hg
  cases hg
  omega
theorem New.lt {w w' : World} {T : TypeId} {L : List Value} (n : New w w' T L) : w.heap.size < w'.heap.size := by have := n.size; omega
set_option maxHeartbeats 1600000 in
theorem parts_ok (w : World) (v : Value) (f : Fml) (cs : List Value) (s : Spc) (v3 : Value) (l : List Rqm) (hf : FAt A0 w v f) (hs : spcR.fits A0 w cs s) (hl : SlAt reqR A0 w v3 l) (hG : GP w) (hF : GF w) :
  Fn Tryz.prog 4 [v, .agg cs.toArray, v3] w fun u w' => u = .bool true ∧ Ext w w' := by
 obtain ⟨av, rfl, LF, hSF, hFA⟩ := hf.form
 obtain ⟨fa, fc, rfl, hSF'⟩ := id hSF
 obtain ⟨sv, rv, rfl, ⟨sa, sc, LS, rfl, hSS, hRS⟩, ⟨ra, rc, LR, rfl, hSR, hRR⟩⟩ := id hs
 obtain ⟨la, lc, LL, rfl, hSL, hRL⟩ := id hl
 have hcap : f.args.length ≤ 9223372036854775807 := by obtain ⟨h1, h2, _⟩ := hSF'; omega
 refine Ab Tryz.func4 rfl Tryz.ntmps4 (Nat.le_of_ble_eq_true rfl) (by kernel_rfl) ?_
 repeat refine nx rfl ?_
 (refine AA ?_; refine Bq (L := fcC f (.slice fa f.args.length fc)) rfl (fun w1 n1 => ?_))
 refine Bq (L := [.slice sa s.sigs.length sc, .slice ra s.reqs.length rc]) rfl (fun w2 n2 => ?_)
 refine AC (AB rfl ?_)
 repeat refine nx rfl ?_
 have k2 : Ext w w2 := n1.keep.trans n2.keep
 refine AA ?_
 refine AS (head_ok w2 (hG.ext k2) (hF.ext k2)) rfl ?_
 rintro _ w3 ⟨rfl, k3⟩
 refine AC (AB rfl ?_)
 repeat refine nx rfl ?_
 refine AA (Ae rfl (Ad (by rfl) (by rfl) ?_))
 refine BE (cs := [.slice none 0 0, .slice la l.length lc]) rfl rfl (by rfl) (by intro u hu; simp at hu; rcases hu with rfl | rfl <;> rfl) (fun w4 n4 => ?_)
 repeat refine nx rfl ?_
 have k04 := (k2.trans k3).trans n4.keep
 have bf := n1.blk.keep (n2.keep.trans (k3.trans n4.keep)) (by simp)
 have bs := n2.blk.keep (k3.trans n4.keep) (by simp)
 have bt := n4.blk
 replace hf := hf.ext k04
 have hs := spcR.ext hs k04
 have ht := tail_fits (hl.ext k04)
 clear n1 n2 n4 k2 k3
 refine AA (AX rfl bf rfl ?_)
 refine AS (rsmall_ok w4 _ f 200 (by omega) hf) rfl ?_
 rintro _ w5 ⟨rfl, k5⟩
 by_cases hf4 : szF f ≤ 200
 case neg =>
  rw [decide_eq_false hf4]
  refine A9 rfl (AB rfl (AI rfl (AI rfl (AI rfl (AK rfl (AB rfl (AB rfl (AI rfl (AI rfl (AI rfl (AK rfl (AB rfl ?_))))))))))))
  repeat refine nx rfl ?_
  refine AA (AB rfl (AC (AB rfl ?_)))
  repeat refine nx rfl ?_
  exact AO rfl ⟨rfl, k04.trans k5⟩
 rw [decide_eq_true hf4]
 refine A9 rfl (AB rfl ?_)
 refine AE rfl (AX rfl (bs.keep k5 (by simp)) rfl ?_)
 refine AE rfl (AS (rsmallSpec_ok w5 _ s 100 (by omega) (spcR.ext hs k5)) rfl ?_)
 rintro _ w6 ⟨rfl, k6⟩
 have k46 := k5.trans k6
 cases hs2 : smS s 100 with
 | false =>
  refine AE rfl (A9 rfl (AP rfl (AB rfl (AB rfl (AI rfl (AI rfl (AI rfl (AK rfl (AB rfl ?_)))))))))
  repeat refine nx rfl ?_
  refine AA (AB rfl (AC (AB rfl ?_)))
  repeat refine nx rfl ?_
  exact AO rfl ⟨rfl, k04.trans k46⟩
 | true =>
 refine AE rfl (A9 rfl (AP rfl (AB rfl (AB rfl ?_))))
 refine AE rfl (AX rfl (bt.keep k46 (by simp)) rfl ?_)
 refine AE rfl (AS (rsmallSpec_ok w6 _ ⟨[], l⟩ 100 (by omega) (spcR.ext ht k46)) rfl ?_)
 rintro _ w7 ⟨rfl, k7⟩
 have k47 := k46.trans k7
 cases ht2 : smS ⟨[], l⟩ 100 with
 | false =>
  refine AE rfl (A9 rfl (AP rfl (AB rfl ?_)))
  repeat refine nx rfl ?_
  refine AA (AB rfl (AC (AB rfl ?_)))
  repeat refine nx rfl ?_
  exact AO rfl ⟨rfl, k04.trans k47⟩
 | true =>
 refine AE rfl (A9 rfl (AP rfl (AB rfl ?_)))
 repeat first | refine nx rfl ?_ | refine nf rfl ?_
 have hsz := smS_sz hs2
 have htz := smS_sz ht2
 have hsl2 : s.sigs.length + szR s.reqs = szS s := rfl
 have htl2 : 0 + szR l = szS ⟨[], l⟩ := rfl
 have hrl := szR_len s.reqs
 have hll := szR_len l
 have k07 := k04.trans k47
 replace bf := bf.keep k47 (by simp)
 replace bs := bs.keep k47 (by simp)
 replace bt := bt.keep k47 (by simp)
 replace hf := hf.ext k47
 have hs := spcR.ext hs k47
 have ht := spcR.ext ht k47
 clear k46 k04 k47 k5 k6 k7
 refine AA (AX rfl bf rfl ?_)
 refine AS (printable_ok _ f (Nat.le_refl _) (by omega) w7 _ hf) rfl ?_
 rintro _ w8 ⟨rfl, k8⟩
 refine AJ ?_
 repeat' first | refine AJ ?_ | refine DH ?_ | refine DP ?_
 refine CE (α := Unit) (fun _ => [(2, .slice la l.length lc), (4, pt w1.heap.size), (7, .bool true), (8, pt w3.heap.size)]) (fun _ W => Ext w7 W) ?_ ?_
 ·cases hok : okF f with
  | false =>
   repeat first | refine nx rfl ?_ | refine nf rfl ?_
   exact An () ⟨rfl, rfl, rfl, rfl, trivial⟩ k8
  | true =>
  have htx := fT_eq hok
  have hord := ord_F f
  have hlen := fT_len f
  have hokl : okL f.args = true := by
   obtain ⟨op, nm, v, b, args⟩ := f
   simp only [okF, Bool.and_eq_true] at hok
   exact hok.2
  repeat refine nx rfl ?_
  refine AA (AX rfl (bf.keep k8 (by simp)) rfl ?_)
  refine AS (prtF_ok w8 _ f (hf.ext k8) (hG.ext (k07.trans k8)) (by omega)) rfl ?_
  rintro _ w9 ⟨rfl, k9⟩
  rw [htx] at hlen ⊢
  clear htx
  generalize prF 0 f = tx at hord hlen
  have k79 := k8.trans k9
  refine AC (AU rfl ?_)
  repeat refine nx rfl ?_
  refine AA (AC (AF rfl ?_))
  repeat refine nx rfl ?_
  refine AA (AC (AF rfl ?_))
  repeat refine nx rfl ?_
  refine BJ (α := Nat × Nat) (fun x => [(2, .slice la l.length lc), (3, pt w.heap.size), (4, pt w1.heap.size), (7, .bool true), (8, pt w3.heap.size), (9, AL tx), (10, .int .i64 (x.2 : Int)), (11, .int .i64 (x.1 : Int))]) (fun x W => x.1 ≤ f.args.length ∧ (∃ u y, tx = u ++ y ∧ x.2 ≤ u.length ∧ Ord y (f.args.drop x.1)) ∧ Ext w7 W) (fun x => f.args.length - x.1) (0, 0) ⟨rfl, rfl, rfl, rfl, rfl, rfl, rfl, rfl, trivial⟩ ⟨by simp, ⟨[], tx, rfl, by simp, hord⟩, k79⟩ ?_
  clear k79 k8 k9
  rintro ⟨k, at'⟩ w10 f10 ⟨hk, ⟨u, y, hu, hat, hoy⟩, k10⟩
  simp only at hk hat hoy ⊢
  repeat refine nx rfl ?_
  have c4 : w10.cell? ⟨w.heap.size, 0 + 4, none⟩ = some (.slice fa f.args.length fc) := (bf.keep k10 (by simp)).cell rfl
  have hkw := k07.trans k10
  by_cases hlt : k < f.args.length
  ·(refine AA (AF rfl (AD rfl (AG rfl (by assumption) ?_))) <;> refine As rfl (BC rfl rfl (by omega) ?_))
   repeat refine nx rfl ?_
   obtain ⟨x, hx⟩ : ∃ x, f.args[k]? = some x := ⟨_, List.getElem?_eq_getElem hlt⟩
   obtain ⟨cx, hcx⟩ : ∃ cx, LF[k]? = some cx := ⟨_, List.getElem?_eq_getElem (by rw [hFA.1]; exact hlt)⟩
   obtain ⟨ba, oa, rfl, hba, hcellx⟩ := hSF.fml hFA.2.1 hcx hlt
   have hxm := szL_mem (List.mem_of_getElem? hx)
   have hfz := szF_eq f
   have hfx : FAt A0 w10 (.agg cx.toArray) x := (hFA.2.2 k cx x hcx hx).ext hkw
   have hcx5 := hFA.2.1 cx (List.mem_of_getElem? hcx)
   have hokx := Bs hokl x (List.mem_of_getElem? hx)
   have hdr : f.args.drop k = x :: f.args.drop (k + 1) := by
    obtain ⟨h1, h2⟩ := List.getElem?_eq_some_iff.1 hx
    rw [List.drop_eq_getElem_cons h1, h2]
   rw [hdr] at hoy
   have hpl := fT_len x
   have hul : u.length ≤ tx.length := by rw [hu, List.length_append]; omega
   (refine AA (AD rfl (AG rfl (by assumption) ?_)) <;> refine AF rfl ?_)
   refine CD (k := k) rfl rfl rfl (by omega) ?_
   refine Ac (L := cx) rfl hcx5 (hcellx.keep hkw (by simp)) ?_
   refine AS (prtF_ok w10 _ x hfx (hG.ext hkw) (by omega)) rfl ?_
   rintro _ w11 ⟨rfl, k11⟩
   rw [fT_eq hokx] at hpl ⊢
   have hpne := fml_ne hokx
   refine AC (AU rfl ?_)
   repeat refine nx rfl ?_
   refine AA (AU rfl (AU rfl (AF rfl ?_)))
   refine AS (find_ok w11 tx (prF 0 x) at' (by omega) (by omega) (by omega)) rfl ?_
   rintro _ w12 ⟨rfl, hfind⟩
   obtain ⟨j, rfl, hij, hocc, hmin⟩ := hfind.resolve_right fun h => ord_some hoy hu hat h.2
   obtain ⟨u', y', hu', hat', hoy'⟩ := ord_next hoy hu hat hmin
   have hjl := hocc.1
   generalize prF 0 x = px at hpne hpl hjl hat'
   refine AC (AF rfl ?_)
   repeat refine nx rfl ?_
   refine AA (AF rfl (BA rfl rfl (by omega) (AB rfl (AE rfl (AU rfl ?_)))))
   (refine AE rfl ?_; refine CM rfl rfl (fun hd => ?_) (fun hd => ?_))
   ·exact absurd hd hpne
   refine AP rfl (AB rfl ?_)
   repeat first | refine nx rfl ?_ | refine nf rfl ?_
   (refine AA (AF rfl (AU rfl (Au rfl (BK rfl rfl (by first | exact Am (by omega) (by omega) | exact At (by omega) (by omega) | exact Al (by omega) (by omega)) ?_)))) <;> refine AC (AF rfl ?_))
   repeat refine nx rfl ?_
   (refine AA (AF rfl (BK rfl rfl (by first | exact Am (by omega) (by omega) | exact At (by omega) (by omega) | exact Al (by omega) (by omega)) ?_)) <;> refine AC (AF rfl ?_))
   repeat refine nx rfl ?_
   refine ⟨(k + 1, j + px.length), ⟨rfl, ⟨rfl, rfl, rfl, rfl, rfl, rfl, ?_, ?_, trivial⟩, ⟨hlt, ⟨u', y', hu', hat', hoy'⟩, k10.trans k11⟩⟩, by simp; omega⟩
   ·show Value.int .i64 ((j : Int) + (px.length : Int)) = _
    simp
   ·show Value.int .i64 ((k : Int) + 1) = _
    simp
  ·(refine AA (AF rfl (AD rfl (AG rfl (by assumption) ?_))) <;> refine As rfl (BA rfl rfl (by omega) ?_))
   repeat first | refine nx rfl ?_ | refine nf rfl ?_
   exact An () ⟨rfl, rfl, rfl, rfl, trivial⟩ k10
 clear k8
 rintro _ w8 f8 k8
 repeat refine nx rfl ?_
 refine AA (AX rfl (bs.keep k8 (by simp)) rfl ?_)
 refine AS (rprintSpec_ok w8 _ s (spcR.ext hs k8) (by omega)) rfl ?_
 rintro _ w9 ⟨rfl, k9⟩
 replace k9 := k8.trans k9
 cases hok : CL s with
 | false =>
  refine A9 rfl (AB rfl (AI rfl (AI rfl (AI rfl (AK rfl (AB rfl ?_))))))
  repeat refine nx rfl ?_
  refine AA (AB rfl (AC (AB rfl ?_)))
  repeat refine nx rfl ?_
  exact AO rfl ⟨rfl, k07.trans k9⟩
 | true =>
 refine A9 rfl (AB rfl ?_)
 refine AE rfl (AX rfl (bt.keep k9 (by simp)) rfl ?_)
 refine AE rfl (AS (rprintSpec_ok w9 _ ⟨[], l⟩ (spcR.ext ht k9) (by omega)) rfl ?_)
 rintro _ w10 ⟨rfl, k10⟩
 replace k10 := k9.trans k10
 cases hok' : CL ⟨[], l⟩ with
 | false =>
  refine AE rfl (A9 rfl (AP rfl (AB rfl ?_)))
  repeat refine nx rfl ?_
  refine AA (AB rfl (AC (AB rfl ?_)))
  repeat refine nx rfl ?_
  exact AO rfl ⟨rfl, k07.trans k10⟩
 | true =>
 refine AE rfl (A9 rfl (AP rfl (AB rfl ?_)))
 repeat first | refine nx rfl ?_ | refine nf rfl ?_
 clear k8 k9
 have hst := sT_eq hok
 have htt := sT_eq hok'
 have hsl := sT_len s
 have htl := sT_len ⟨[], l⟩
 have hbk := @back_B s l hok hok'
 refine CE (α := Unit) (fun _ => [(2, .slice la l.length lc), (4, pt w1.heap.size), (7, .bool true), (13, AL (spcT s ++ spcT ⟨[], l⟩))]) (fun _ W => Ext w7 W) ?_ ?_
 ·refine Bb (.read 0 (.read 2 (.alt 1 (.alt 3 (.read 4 (.read 5 .done)) .stop) .stop))) BP (by kernel_rfl) (fun wd kd ed => ⟨Ext wd, ?_, ?_⟩)
  ·exact Ext.refl _
  have kd7 := k10.trans kd
  have ca : ∀ W, Ext wd W → Cells W w1.heap.size 0 [.slice sa s.sigs.length sc, .slice ra s.reqs.length rc] := fun W e => ((bs.keep kd7 (by simp)).keep e (by simp)).cells
  have cb : ∀ W, Ext wd W → Cells W w3.heap.size 0 [.slice none 0 0, .slice la l.length lc] := fun W e => ((bt.keep kd7 (by simp)).keep e (by simp)).cells
  ((apply D_R rfl rfl; (intro W hW; refine Ac rfl (by rfl) (ca W hW) ?_; exact Z3)) <;> (apply D_R rfl rfl; (intro W hW; refine Ac rfl (by rfl) (cb W hW) ?_; exact Z3)))
  refine D_E rfl ?_
  refine AS (prtS_ok wd _ s (spcR.ext hs kd7) (hG.ext (k07.trans kd7)) (by omega)) rfl ?_
  rintro _ x1 ⟨rfl, j1⟩
  rw [hst] at hsl ⊢
  refine AJ ⟨Ext wd, fun _ e => e, j1, ?_⟩
  refine D_E rfl ?_
  refine AS (prtS_ok x1 _ ⟨[], l⟩ (spcR.ext ht (kd7.trans j1)) (hG.ext (k07.trans (kd7.trans j1))) (by omega)) rfl ?_
  rintro _ x2 ⟨rfl, j2⟩
  rw [htt] at htl ⊢
  refine AJ ⟨Ext wd, fun _ e => e, j1.trans j2, ?_⟩
  refine D_R rfl rfl (fun W hW => by refine DU rfl rfl (by omega) ?_; exact AJ ⟨rfl, rfl, rfl⟩) ?_
  refine D_R rfl rfl (fun W hW => AC (AU rfl Z3)) (A8 ?_)
  repeat refine nx rfl ?_
  exact An () ⟨rfl, rfl, rfl, rfl, trivial⟩ (kd7.trans (j1.trans j2))
 clear k10
 rintro _ w10 f10 k10
 repeat refine nx rfl ?_
 generalize htx : spcT s ++ spcT ⟨[], l⟩ = tx at hbk
 refine AA (AU rfl ?_)
 refine AS (parseU_S w10 tx (hG.ext (k07.trans k10)).gk) rfl ?_
 rintro _ w11 ⟨o, c, pF, rfl, k11, fF, uF⟩
 refine Bp rfl (Ag rfl rfl (Ag rfl rfl (Ag rfl rfl ?_)))
 refine BE (cs := c) rfl (spcR.len fF) (by rfl) (spcR.one fF) (fun w12 n12 => ?_)
 have k712 := (k10.trans k11).trans n12.keep
 have b12 := n12.blk
 have hu12 := fit_any spcR fF n12.keep
 have hcl := spcR.len fF
 refine AC (AF rfl (AC (AF rfl ?_)))
 repeat refine nx rfl ?_
 have hs12 := spcR.ext hs k712
 refine CE (α := Nat × List Value) (fun x => [(7, .bool true), (13, AL tx), (14, pt w11.heap.size), (15, .int .i64 o.errno), (17, pt x.1)]) (fun x W => Ext w12 W ∧ Blk W x.1 28 x.2 ∧ spcR.fits A0 W x.2 ⟨s.sigs, s.reqs ++ l⟩) ?_ ?_
 ·refine Bb (.read 0 (.read 1 (.read 3 (.read 4 (.read 6 (.alt 2 (.alt 5 (.alt 7 (.read 8 (.alt 9 (.alt 10 .done .stop) .stop)) (.alt 9 (.alt 7 (.read 8 (.alt 10 .done .stop)) .stop) .stop)) (.alt 9 (.alt 5 (.alt 7 (.read 8 (.alt 10 .done .stop)) .stop) .stop) .stop)) (.alt 9 (.alt 2 (.alt 5 (.alt 7 (.read 8 (.alt 10 .done .stop)) .stop) .stop) .stop) .stop))))))) BP (by kernel_rfl) (fun wd kd ed => ⟨Ext wd, ?_, ?_⟩)
  ·exact Ext.refl _
  have kd7 := k712.trans kd
  have fc0 : ∀ W, Ext wd W → W.cell? ⟨w1.heap.size, 0 + 0, none⟩ = some (.slice sa s.sigs.length sc) := fun W e => ((bs.keep kd7 (by simp)).keep e (by simp)).cell rfl
  have fc1 : ∀ W, Ext wd W → W.cell? ⟨w1.heap.size, 0 + 1, none⟩ = some (.slice ra s.reqs.length rc) := fun W e => ((bs.keep kd7 (by simp)).keep e (by simp)).cell rfl
  have kwd := k07.trans kd7
  have SR := hSR.ext kwd
  have SL := hSL.ext kwd
  have RR := hRR.ext kwd
  have RL := hRL.ext kwd
  have SS : SlAt sgnR A0 wd (.slice sa s.sigs.length sc) s.sigs := ⟨sa, sc, LS, rfl, hSS.ext kwd, hRS.ext kwd⟩
  have hRl : LR.flatten.length = s.reqs.length * 8 := hRR.flat
  have hRo := hRR.oneC
  have hLl : LL.flatten.length = l.length * 8 := hRL.flat
  have hLo := hRL.oneC
  have e0 := Ext.refl wd
  refine D_R rfl rfl (fun W hW => AD rfl Z3) (D_R rfl rfl (fun W hW => AG rfl (fc0 W hW) Z3) (D_R rfl rfl (fun W hW => AD rfl Z3) (D_R rfl rfl (fun W hW => AG rfl (fc1 W hW) Z3) (D_R rfl rfl (fun W hW => Ae rfl Z3) ?_))))
  refine D_A rfl ?_ ?_
  ·refine AV (out := []) rfl (by omega) (by kernel_rfl) (fun w13 m12 => ?_)
   have e13 := e0.trans m12.keep
   have o12 := m12.own (n := 0) (size := 8) rfl (by decide) e0.size
   refine AJ ⟨Ext wd, fun _ e => e, e13, ?_⟩
   refine D_A rfl ?_ ?_
   ·refine Bl (ok := A0) (v := .slice (some ⟨wd.heap.size, 0, none⟩) 0 0) (sv := .slice ra s.reqs.length rc) rfl rfl o12 (SR.ext e13) (by omega) rfl hRl hRo (by omega) (by omega) e13.size (fun v15 w15 a15 => ?_)
    have o15 := a15.own
    have e15 : Ext wd w15 := e13.keep a15.keep fun y hy => (BM o12 (Option.mem_toList.1 hy)).1
    refine AJ ⟨Ext wd, fun _ e => e, e15, ?_⟩
    refine D_A rfl ?_ ?_
    ·refine Bl (ok := A0) (v := v15) (sv := .slice la l.length lc) rfl rfl o15 (SL.ext e15) (by omega) rfl hLl hLo (by omega) (by omega) e15.size (fun v18 w18 a18 => ?_)
     have o18 := a18.own
     have e18 : Ext wd w18 := e15.keep a18.keep fun y hy => (BM o15 (Option.mem_toList.1 hy)).1
     obtain ⟨a', c', rfl, _⟩ := id (A3 (ok := A0) o18 (fun _ _ => trivial))
     refine AJ ⟨Ext wd, fun _ e => e, e18, ?_⟩
     refine D_R rfl rfl (fun W hW => by refine Ad (by rfl) (by rfl) ?_; exact AJ ⟨rfl, rfl, rfl⟩) ?_
     refine D_E rfl ?_
     refine Ay (fun w19 m9 => ?_)
     have b9 : Blk w19 w18.heap.size 28 [.slice none 0 0, .slice none 0 0] := m9.blk
     have e19 := e18.trans m9.keep
     refine AJ ⟨Ext wd, fun _ e => e, e19, ?_⟩
     refine D_E rfl ?_
     refine AZ (cs := [.slice sa s.sigs.length sc, .slice a' (0 + s.reqs.length + l.length) c']) rfl rfl rfl (by intro u hu; simp at hu; rcases hu with rfl | rfl <;> rfl) (b9) (Nat.le_refl 2) (fun z pz => ?_)
     have bz : Blk z w18.heap.size 28 [.slice sa s.sigs.length sc, .slice a' (0 + s.reqs.length + l.length) c'] := pz.blk
     have ez : Ext wd z := e19.keep pz.keep (fun x hx => by rw [List.mem_singleton] at hx; rw [hx]; exact e18.size)
     have oz := Ax (BX o18 m9.keep) pz.keep (fun g hg => by rw [List.mem_singleton]; exact (fun g hg => Nat.ne_of_lt (BM o18 hg).2) g hg)
     rw [List.nil_append] at oz
     have oz' := oz
     rw [Nat.zero_add] at oz
     refine AJ ⟨Ext wd, fun _ e => e, ez, ?_⟩
     refine A8 ?_
     repeat refine nx rfl ?_
     refine An (w18.heap.size, [.slice sa s.sigs.length sc, .slice a' (0 + s.reqs.length + l.length) c']) ⟨rfl, rfl, rfl, rfl, rfl, trivial⟩ ⟨kd.trans ez, bz, ⟨_, _, rfl, SS.ext ez, ?_⟩⟩
     rw [Nat.zero_add]
     exact apps_fits oz (RR.ext ez) (RL.ext ez)
    refine D_E rfl ?_
    refine Ay (fun w16 m9 => ?_)
    have b9 : Blk w16 w15.heap.size 28 [.slice none 0 0, .slice none 0 0] := m9.blk
    have e16 := e15.trans m9.keep
    refine AJ ⟨Ext wd, fun _ e => e, e16, ?_⟩
    refine D_E rfl ?_
    refine Bl (ok := A0) (v := v15) (sv := .slice la l.length lc) rfl rfl (BX o15 m9.keep) (SL.ext e16) (by omega) rfl hLl hLo (by omega) (by omega) e16.size (fun v18 w18 a18 => ?_)
    have o18 := a18.own
    have e18 : Ext wd w18 := e16.keep a18.keep fun y hy => (BM (BX o15 m9.keep) (Option.mem_toList.1 hy)).1
    obtain ⟨a', c', rfl, _⟩ := id (A3 (ok := A0) o18 (fun _ _ => trivial))
    refine AJ ⟨Ext wd, fun _ e => e, e18, ?_⟩
    refine D_R rfl rfl (fun W hW => by refine Ad (by rfl) (by rfl) ?_; exact AJ ⟨rfl, rfl, rfl⟩) ?_
    refine D_E rfl ?_
    refine AZ (cs := [.slice sa s.sigs.length sc, .slice a' (0 + s.reqs.length + l.length) c']) rfl rfl rfl (by intro u hu; simp at hu; rcases hu with rfl | rfl <;> rfl) (b9.keep a18.keep (fun h => Nat.lt_irrefl _ (BM o15 (Option.mem_toList.1 h)).2)) (Nat.le_refl 2) (fun z pz => ?_)
    have bz : Blk z w15.heap.size 28 [.slice sa s.sigs.length sc, .slice a' (0 + s.reqs.length + l.length) c'] := pz.blk
    have ez : Ext wd z := e18.keep pz.keep (fun x hx => by rw [List.mem_singleton] at hx; rw [hx]; exact e15.size)
    have oz := Ax (o18) pz.keep (fun g hg => by rw [List.mem_singleton]; exact (own_ne a18 (fun g hg => Nat.ne_of_lt (BM o15 hg).2) m9.lt) g hg)
    rw [List.nil_append] at oz
    have oz' := oz
    rw [Nat.zero_add] at oz
    refine AJ ⟨Ext wd, fun _ e => e, ez, ?_⟩
    refine A8 ?_
    repeat refine nx rfl ?_
    refine An (w15.heap.size, [.slice sa s.sigs.length sc, .slice a' (0 + s.reqs.length + l.length) c']) ⟨rfl, rfl, rfl, rfl, rfl, trivial⟩ ⟨kd.trans ez, bz, ⟨_, _, rfl, SS.ext ez, ?_⟩⟩
    rw [Nat.zero_add]
    exact apps_fits oz (RR.ext ez) (RL.ext ez)
   refine D_E rfl ?_
   refine Ay (fun w14 m9 => ?_)
   have b9 : Blk w14 w13.heap.size 28 [.slice none 0 0, .slice none 0 0] := m9.blk
   have e14 := e13.trans m9.keep
   refine AJ ⟨Ext wd, fun _ e => e, e14, ?_⟩
   refine D_E rfl ?_
   refine Bl (ok := A0) (v := .slice (some ⟨wd.heap.size, 0, none⟩) 0 0) (sv := .slice ra s.reqs.length rc) rfl rfl (BX o12 m9.keep) (SR.ext e14) (by omega) rfl hRl hRo (by omega) (by omega) e14.size (fun v15 w15 a15 => ?_)
   have o15 := a15.own
   have e15 : Ext wd w15 := e14.keep a15.keep fun y hy => (BM (BX o12 m9.keep) (Option.mem_toList.1 hy)).1
   refine AJ ⟨Ext wd, fun _ e => e, e15, ?_⟩
   refine D_E rfl ?_
   have hn15 := own_ne a15 (p := w13.heap.size) (fun g hg => Nat.ne_of_lt (BM o12 hg).2) m9.lt
   have b15 := b9.keep a15.keep (fun h => Nat.lt_irrefl _ (BM o12 (Option.mem_toList.1 h)).2)
   refine Bl (ok := A0) (v := v15) (sv := .slice la l.length lc) rfl rfl o15 (SL.ext e15) (by omega) rfl hLl hLo (by omega) (by omega) e15.size (fun v18 w18 a18 => ?_)
   have o18 := a18.own
   have e18 : Ext wd w18 := e15.keep a18.keep fun y hy => (BM o15 (Option.mem_toList.1 hy)).1
   obtain ⟨a', c', rfl, _⟩ := id (A3 (ok := A0) o18 (fun _ _ => trivial))
   refine AJ ⟨Ext wd, fun _ e => e, e18, ?_⟩
   refine D_R rfl rfl (fun W hW => by refine Ad (by rfl) (by rfl) ?_; exact AJ ⟨rfl, rfl, rfl⟩) ?_
   refine D_E rfl ?_
   refine AZ (cs := [.slice sa s.sigs.length sc, .slice a' (0 + s.reqs.length + l.length) c']) rfl rfl rfl (by intro u hu; simp at hu; rcases hu with rfl | rfl <;> rfl) (b15.keep a18.keep (fun h => hn15 _ (Option.mem_toList.1 h) rfl)) (Nat.le_refl 2) (fun z pz => ?_)
   have bz : Blk z w13.heap.size 28 [.slice sa s.sigs.length sc, .slice a' (0 + s.reqs.length + l.length) c'] := pz.blk
   have ez : Ext wd z := e18.keep pz.keep (fun x hx => by rw [List.mem_singleton] at hx; rw [hx]; exact e13.size)
   have oz := Ax (o18) pz.keep (fun g hg => by rw [List.mem_singleton]; exact (own_ne a18 hn15 (b15.lt)) g hg)
   rw [List.nil_append] at oz
   have oz' := oz
   rw [Nat.zero_add] at oz
   refine AJ ⟨Ext wd, fun _ e => e, ez, ?_⟩
   refine A8 ?_
   repeat refine nx rfl ?_
   refine An (w13.heap.size, [.slice sa s.sigs.length sc, .slice a' (0 + s.reqs.length + l.length) c']) ⟨rfl, rfl, rfl, rfl, rfl, trivial⟩ ⟨kd.trans ez, bz, ⟨_, _, rfl, SS.ext ez, ?_⟩⟩
   rw [Nat.zero_add]
   exact apps_fits oz (RR.ext ez) (RL.ext ez)
  refine D_E rfl ?_
  refine Ay (fun w13 m9 => ?_)
  have b9 : Blk w13 wd.heap.size 28 [.slice none 0 0, .slice none 0 0] := m9.blk
  have e13 := e0.trans m9.keep
  refine AJ ⟨Ext wd, fun _ e => e, e13, ?_⟩
  refine D_E rfl ?_
  refine AV (out := []) rfl (by omega) (by kernel_rfl) (fun w14 m12 => ?_)
  have e14 := e13.trans m12.keep
  have o12 := m12.own (n := 0) (size := 8) rfl (by decide) e13.size
  refine AJ ⟨Ext wd, fun _ e => e, e14, ?_⟩
  refine D_E rfl ?_
  refine Bl (ok := A0) (v := .slice (some ⟨w13.heap.size, 0, none⟩) 0 0) (sv := .slice ra s.reqs.length rc) rfl rfl o12 (SR.ext e14) (by omega) rfl hRl hRo (by omega) (by omega) e14.size (fun v15 w15 a15 => ?_)
  have o15 := a15.own
  have e15 : Ext wd w15 := e14.keep a15.keep fun y hy => (BM o12 (Option.mem_toList.1 hy)).1
  refine AJ ⟨Ext wd, fun _ e => e, e15, ?_⟩
  refine D_E rfl ?_
  have b14 := b9.keep m12.keep (by simp)
  have hn14 : ∀ g, (Value.slice (some ⟨w13.heap.size, 0, none⟩) 0 0).ownBlock = some g → g ≠ wd.heap.size := fun g hg => by
   have h1 := m9.size
   simp only [Value.ownBlock, Option.some.injEq] at hg
   omega
  have hn15 := own_ne a15 hn14 b14.lt
  have b15 := b14.keep a15.keep (fun h => hn14 _ (Option.mem_toList.1 h) rfl)
  refine Bl (ok := A0) (v := v15) (sv := .slice la l.length lc) rfl rfl o15 (SL.ext e15) (by omega) rfl hLl hLo (by omega) (by omega) e15.size (fun v18 w18 a18 => ?_)
  have o18 := a18.own
  have e18 : Ext wd w18 := e15.keep a18.keep fun y hy => (BM o15 (Option.mem_toList.1 hy)).1
  obtain ⟨a', c', rfl, _⟩ := id (A3 (ok := A0) o18 (fun _ _ => trivial))
  refine AJ ⟨Ext wd, fun _ e => e, e18, ?_⟩
  refine D_R rfl rfl (fun W hW => by refine Ad (by rfl) (by rfl) ?_; exact AJ ⟨rfl, rfl, rfl⟩) ?_
  refine D_E rfl ?_
  refine AZ (cs := [.slice sa s.sigs.length sc, .slice a' (0 + s.reqs.length + l.length) c']) rfl rfl rfl (by intro u hu; simp at hu; rcases hu with rfl | rfl <;> rfl) (b15.keep a18.keep (fun h => hn15 _ (Option.mem_toList.1 h) rfl)) (Nat.le_refl 2) (fun z pz => ?_)
  have bz : Blk z wd.heap.size 28 [.slice sa s.sigs.length sc, .slice a' (0 + s.reqs.length + l.length) c'] := pz.blk
  have ez : Ext wd z := e18.keep pz.keep (fun x hx => by rw [List.mem_singleton] at hx; rw [hx]; exact Nat.le_refl _)
  have oz := Ax (o18) pz.keep (fun g hg => by rw [List.mem_singleton]; exact (own_ne a18 hn15 (b15.lt)) g hg)
  rw [List.nil_append] at oz
  have oz' := oz
  rw [Nat.zero_add] at oz
  refine AJ ⟨Ext wd, fun _ e => e, ez, ?_⟩
  refine A8 ?_
  repeat refine nx rfl ?_
  refine An (wd.heap.size, [.slice sa s.sigs.length sc, .slice a' (0 + s.reqs.length + l.length) c']) ⟨rfl, rfl, rfl, rfl, rfl, trivial⟩ ⟨kd.trans ez, bz, ⟨_, _, rfl, SS.ext ez, ?_⟩⟩
  rw [Nat.zero_add]
  exact apps_fits oz (RR.ext ez) (RL.ext ez)
 rintro ⟨p, c2⟩ w13 f13 ⟨k13, bp, hc2⟩
 simp only at bp hc2 ⊢
 repeat refine nx rfl ?_
 have hcl2 := spcR.len hc2
 have k713 := k712.trans k13
 refine AA (AB rfl (AB rfl (AE rfl (AU rfl ?_))))
 refine AE rfl (AS (long_ok w13 tx) rfl ?_)
 rintro _ w14 ⟨rfl, k14⟩
 cases hlg : longM tx with
 | true =>
  refine AE rfl (AB rfl (AI rfl (AI rfl (AI rfl (AI rfl (AI rfl (AI rfl (AI rfl (AE rfl (AK rfl (AB rfl (AK rfl (AB rfl (AC (AB rfl ?_)))))))))))))))
  repeat refine nx rfl ?_
  exact AO rfl ⟨rfl, k07.trans (k713.trans k14)⟩
 | false =>
 obtain rfl := hbk hlg pF
 have e1 : Out.errno (Except.ok (⟨s.sigs, s.reqs ++ l⟩ : Spc) : Out Spc) = 0 := rfl
 refine AE rfl (AB rfl (AE rfl (AF rfl (AE rfl (Av rfl rfl (by omega) (AE rfl (AB rfl ?_)))))))
 refine AE rfl (AX rfl (b12.keep (k13.trans k14) (by simp)) hcl ?_)
 refine AE rfl (AX rfl (bp.keep k14 (by simp)) hcl2 ?_)
 refine AE rfl (AS (sameSpec_ok w14 _ _ ⟨s.sigs, s.reqs ++ l⟩ ⟨s.sigs, s.reqs ++ l⟩ (spcR.ext hu12 (k13.trans k14)) (spcR.ext hc2 k14)) rfl ?_)
 rintro _ w15 ⟨b, rfl, hb, k15⟩
 obtain rfl := hb.2 rfl
 refine AE rfl (AK rfl (AB rfl (AE rfl (AP rfl (AB rfl (AK rfl (AB rfl (AC (AB rfl ?_)))))))))
 repeat refine nx rfl ?_
 exact AO rfl ⟨rfl, k07.trans ((k713.trans k14).trans k15)⟩
end Go.Proofs.YtfcgdbmoncnibaaGreatDoor
namespace Go.Proofs.YtfcgdbmoncnibaaGreatDoor
open Go.ChangeShapes Go.WideShapes Go.ChangeAt Go.RowKit
open Go.ChangeMaps (open_string)
section
variable {H : Type} {enc : TypeId × Value → H} {P : Program} {W W' : World}
theorem sameAt_ext (he : Ext W W') {p : MemPlace} (hp : p.block < W.heap.size) : W.sameAt W' p := by
 cases p with
 | cell b off => exact World.cell?_of_block (w := W) (a := ⟨b, off, none⟩) (he.block b hp (by simp))
 | map b => exact he.block b hp (by simp)
theorem trodAll_ext (K : Kids P (· < P.types.size)) (hz : ∀ t e, t < P.types.size → P.underlying t = some (.slice e) → 0 < P.cellsOf e) (he : Ext W W') {sp : Nat → Bool} :
  ∀ {ts : List TypeId} {vs : List Value} {ds : List (DataW H)} {ps : List MemPlace}, (∀ t ∈ ts, t < P.types.size) → DataW.TrodAll enc P W 0 (fun _ => true) true ts vs ds ps →
   (∀ p ∈ ps, p.block < W.heap.size) → (∀ p ∈ ps, sp p.block = true) → DataW.TrodAll enc P W' 0 sp true ts vs ds ps
 | [], [], [], _, _, h, _, _ => h
 | _ :: _, _ :: _, _ :: _, _, hT, ⟨p, q, ⟨n, h1⟩, h2, e⟩, hl, hs => by
  subst e
  refine ⟨p, q, ⟨n, DataW.trod_stays K (fun ht hu => hz _ _ ht hu) (fun h => by cases h) (hT _ (by simp)) h1 (fun x hx => sameAt_ext he (hl x (List.mem_append_left _ hx))) fun x hx => hs x (List.mem_append_left _ hx)⟩, ?_, rfl⟩
  exact trodAll_ext K hz he (fun t ht => hT t (List.mem_cons_of_mem _ ht)) h2 (fun x hx => hl x (List.mem_append_right _ hx)) fun x hx => hs x (List.mem_append_right _ hx)
theorem keptBut_ext (he : Ext W W') (may : MemPlace → Prop) : W.keptBut W' may := by
 refine ⟨he.os, he.output, fun i hi => ?_⟩
 rw [he.block i hi (by simp)]
 exact (World.keptBut_refl W may).2.2 i hi
theorem post_of_ext (K : Kids P (· < P.types.size)) (hz : ∀ t e, t < P.types.size → P.underlying t = some (.slice e) → 0 < P.cellsOf e) {f : Func} {s : ChangeSpec} {apart fresh handsOn : Bool} {args : Array Value} {v : Value} {ds gs : List (DataW H)} {before : List MemPlace} {tb : TypeId}
  (hts : ∀ t ∈ f.params.toList, t < P.types.size) (hs : s.vars = []) (hW : DataW.Whole enc P f.params.toList s.vars apart W args.toList ds gs before)
  (hfn : s.fn H (ds ++ gs) = { results := [.lit (.bool true)], args := ds }) (hrt : f.resultTypes = #[tb]) (htb : P.underlying tb = some .bool) (hv : v = .bool true) (he : Ext W W') :
  s.post enc P f apart fresh handsOn false W args v W' := by
 subst hv
 have hlt : ∀ p ∈ before, p.block < W.heap.size := hW.lt
 obtain ⟨p, q, hA, hV, rfl, hf, hn⟩ := id hW
 have hq : gs = [] ∧ q = [] := by
  rw [hs] at hV
  cases gs with
  | nil => exact ⟨rfl, hV⟩
  | cons _ _ => exact hV.elim
 obtain ⟨rfl, rfl⟩ := hq
 refine ⟨ds, [], _, [], p, [], hW, ?_, ?_, ?_, keptBut_ext he _, (fun h => by cases h)⟩
 ·rw [hfn, hrt]
  exact trodAll_cons_mk (shut_bool htb true) trodAll_mk0
 ·rw [hfn]
  exact trodAll_ext K hz he hts hA (fun x hx => hlt x (List.mem_append_left _ hx)) fun x hx => by simpa using hlt x (List.mem_append_left _ hx)
 ·rw [hfn, hs]; exact rfl
end
theorem kids : Kids Tryz.prog (· < Tryz.prog.types.size) := kids_rows (by kernel_rfl) (by kernel_rfl)
theorem full : ∀ t e, t < Tryz.prog.types.size → Tryz.prog.underlying t = some (.slice e) → 0 < Tryz.prog.cellsOf e := slices_full_of Tryz.prog (by kernel_rfl)
theorem own : ownKnob Tryz.prog.godebug = none := by kernel_rfl
section
variable {H : Type} {enc : TypeId × Value → H} {P : Program} {W : World} {sp : Nat → Bool} {hd : Bool}
theorem spot_none {a : Addr} {v : Value} (h : W.cell? a = some v) : a.spot = none := by
 cases ha : a.spot with
 | none => rfl
 | some _ =>
  unfold World.cell? at h
  split at h
  ·simp [ha] at h
  ·cases h
theorem val_one {r : Reach} {t e : TypeId} {v u : Value} {b : Nat} (ht : P.underlying t = some (.slice e)) (hval : Value.okWide P W r b t v) (h : v.cells.toList = [u]) : v = u := by
 obtain ⟨a, l, c, rfl⟩ := okWide_slice ht hval
 simpa [Value.cells] using h
end
end Go.Proofs.YtfcgdbmoncnibaaGreatDoor
