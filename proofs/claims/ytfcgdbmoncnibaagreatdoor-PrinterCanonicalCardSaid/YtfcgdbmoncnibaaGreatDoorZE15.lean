/- The reference lexer: the next token. The reference lexer: all tokens. The printer's laws: texts too long for the lexer; what is parsed of a text that was printed. PrinterCanonical walked. A law's close: what the walk gives, as the row wants it; the common part. Formulas, requirements, specifications and edits that come in, opened. A law's close where the row lists the parser's variables: what the list gives, the witness, the law's step. PrinterCanonical: for every input the law returns true and each argument reads as it did. Conditions: none. -/
import Derived.Test.YtfcgdbmoncnibaaGreatDoorZE14
import Derived.WalkKit
import Derived.ProofKit
import Derived.OpenShut
import Derived.JoinedCond
import Derived.ChangeStays
import Derived.ReadAgain
import Derived.Deep.Slices
import Derived.Test.YtfcgdbmoncnibaaGreatDoorCards
import Derived.Test.YtfcgdbmoncnibaaGreatDoorTie
import Derived.Deep.DeepWitnessRowRef
import Derived.Lib.LaidTab

namespace Go.Proofs.YtfcgdbmoncnibaaGreatDoor
open Go.RowKit
set_option linter.unusedVariables false
variable {mk : Prop} [MK mk]
theorem rnext_ok (u : List UInt8) (w : World) (h1 : 1 ≤ u.length) (h6 : u.length ≤ 1000000) : Fn Tryz.prog 100 [AI u] w fun v w' => Ext w w' ∧ v = .tuple #[.agg #[.int .i64 (Cb u).1, AI (u.take (Cb u).2.1), .int .i64 0], .bool (Cb u).2.2] := by
 have hc0 : u[0]? = some u[0] := List.getElem?_eq_getElem (by omega)
 generalize u[0] = c at hc0
 have hgd : u.getD 0 0 = c := by simp [List.getD_eq_getElem?_getD, hc0]
 have cb := c.toNat_lt
 refine Af Tryz.func100 rfl Tryz.ntmps100 (Nat.le_of_ble_eq_true rfl) (by kernel_rfl) ?_
 repeat refine nx rfl ?_
 refine AA ?_
 refine Av (fun w1 n1 => ?_)
 have b1 : Blk w1 w.heap.size 158 [.int .i64 0, AI [], .int .i64 0] := n1.blk
 refine AC (AD rfl ?_)
 repeat refine nx rfl ?_
 refine AA (AC (AH rfl ?_))
 repeat refine nx rfl ?_
 refine Cp (α := Unit) (fun _ => [(0, AI u), (2, pt w.heap.size), (3, .bool false), (4, .int .i64 0), (19, .bool (CL c))]) (fun _ W => W = w1) ?_ ?_
 ·by_cases hs : 97 ≤ c.toNat ∧ c.toNat ≤ 122
  ·have hsm : BP c = true := by simp [BP, hs.1, hs.2]
   (refine AA (AX rfl (Bk rfl rfl (by assumption) ?_)) <;> refine W_geqT rfl rfl (by omega) (AD rfl (AE rfl (AX rfl (AE rfl (Bk rfl rfl (by assumption) ?_))))) <;> refine AE rfl (W_leqT rfl rfl (by omega) (AN rfl (AD rfl (AD rfl (AM rfl (AM rfl ?_)))))))
   refine AM rfl (AN rfl (AD rfl (AJ ?_)))
   exact Ay () ⟨rfl, rfl, rfl, rfl, by simp [upd, Nat.beq, CL, hsm], trivial⟩ rfl
  ·have hsm : BP c = false := by simp [BP]; omega
   (refine AA (AX rfl (Bk rfl rfl (by assumption) ?_)) <;> (refine W_geq rfl rfl (fun hc => ?_) (fun hc => ?_) <;> try omega) <;> refine AD rfl ?_ <;> (first | refine AM rfl ?_ | (refine AE rfl ?_; refine AX rfl ?_)) <;> (first | refine AM rfl ?_ | (refine AE rfl ?_; refine Bk rfl rfl (by assumption) ?_)) <;> (first | refine AM rfl ?_ | (refine AE rfl ?_; refine W_leqF rfl rfl (by omega) ?_)) <;> ((first | refine AN rfl ?_ | refine AS rfl ?_); refine AD rfl ?_) <;> refine AD rfl (AE rfl (AX rfl (AE rfl (Bk rfl rfl (by assumption) ?_)))))
   all_goals
    refine AE rfl (AO (rbig_ok c _) rfl ?_)
    rintro v w' ⟨rfl, rfl⟩
    refine AS rfl (AD rfl (AJ ?_))
    exact Ay () ⟨rfl, rfl, rfl, rfl, by simp [upd, Nat.beq, CL, hsm], trivial⟩ rfl
 rintro _ w2 f2 rfl
 repeat refine nx rfl ?_
 cases hl : CL c with
 | true =>
  repeat refine nx rfl ?_
  refine AA (AC (AH rfl ?_))
  repeat refine nx rfl ?_
  refine Bi (α := Nat) (fun n => [(0, AI u), (2, pt w.heap.size), (3, .bool false), (4, .int .i64 (n : Int))]) (fun n W => n ≤ u.length ∧ 1 ≤ n ∧ Al BG u n = Al BG u 1 ∧ W = w2) (fun n => u.length - n) 1 ⟨rfl, rfl, rfl, rfl, trivial⟩ ⟨by omega, Nat.le_refl _, rfl, rfl⟩ ?_
  rintro n w3 f3 ⟨hn, hn0, hw, rfl⟩
  repeat refine nx rfl ?_
  by_cases hlt : n < u.length
  ·have hcn : u[n]? = some u[n] := List.getElem?_eq_getElem hlt
   generalize u[n] = d at hcn
   refine AA (AH rfl (AX rfl (BD rfl (BX rfl rfl (by omega) (AD rfl (AE rfl (AX rfl (AE rfl (AH rfl (AE rfl (Bk rfl rfl (by assumption) ?_)))))))))))
   refine AE rfl (AO (rpart_ok d _) rfl ?_)
   rintro v w' ⟨rfl, rfl⟩
   refine AN rfl (AD rfl (AJ ?_))
   cases hp : BG d with
   | true =>
    repeat refine nx rfl ?_
    (refine AA (AH rfl (Bq rfl rfl (by first | exact Ar (by omega) (by omega) | exact A3 (by omega) (by omega) | exact Aq (by omega) (by omega)) ?_)) <;> refine AC (AH rfl ?_))
    repeat refine nx rfl ?_
    refine ⟨n + 1, ⟨rfl, ⟨rfl, rfl, rfl, ?_, trivial⟩, ⟨by omega, by omega, (Bj hcn hp).symm.trans hw, rfl⟩⟩, by omega⟩
    show Value.int .i64 ((n : Int) + 1) = _
    rw [Int.natCast_add]; rfl
   | false =>
    have hwn := whileB_stop hcn hp
    repeat first | refine nx rfl ?_ | refine nf rfl ?_
    have hend : n = Al BG u 1 := by omega
    have hwl := Bs (p := BG) (t := u) (a := 1) (by omega)
    rw [hend]
    by_cases h20 : Al BG u 1 ≤ 20
    ·(refine AA (AX rfl (AH rfl (Cy rfl rfl (by omega) (Ac (by rfl) (by rfl) ?_)))) <;> refine AH rfl (W_leqT rfl rfl (by omega) ?_))
     refine AZ (cs := [.int .i64 1, AI (u.take (Al BG u 1)), .int .i64 0]) rfl rfl rfl (A6 rfl) b1 (by simp) (fun w4 p4 => ?_)
     have b4 : Blk w4 w.heap.size 158 [.int .i64 1, AI (u.take (Al BG u 1)), .int .i64 0] := p4.blk
     refine AC (AD rfl ?_)
     repeat refine nx rfl ?_
     refine CM rfl rfl rfl b4.cells ⟨n1.keep.keep p4.keep (by simp), ?_⟩
     unfold Cb
     rw [hgd, if_pos hl, decide_eq_true h20]; rfl
    ·(refine AA (AX rfl (AH rfl (Cy rfl rfl (by omega) (Ac (by rfl) (by rfl) ?_)))) <;> refine AH rfl (W_leqF rfl rfl (by omega) ?_))
     refine AZ (cs := [.int .i64 1, AI (u.take (Al BG u 1)), .int .i64 0]) rfl rfl rfl (A6 rfl) b1 (by simp) (fun w4 p4 => ?_)
     have b4 : Blk w4 w.heap.size 158 [.int .i64 1, AI (u.take (Al BG u 1)), .int .i64 0] := p4.blk
     refine AC (AD rfl ?_)
     repeat refine nx rfl ?_
     refine CM rfl rfl rfl b4.cells ⟨n1.keep.keep p4.keep (by simp), ?_⟩
     unfold Cb
     rw [hgd, if_pos hl, decide_eq_false h20]; rfl
  ·obtain rfl : n = u.length := by omega
   have hwn := whileB_end (p := BG) (t := u) (a := u.length) (by omega)
   have hend : u.length = Al BG u 1 := by omega
   refine AA (AH rfl (AX rfl (BD rfl (Bb rfl rfl (by omega) (AD rfl (AM rfl (AM rfl (AM rfl ?_))))))))
   refine AM rfl (AS rfl (AD rfl ?_))
   repeat first | refine nx rfl ?_ | refine nf rfl ?_
   have hwl := Bs (p := BG) (t := u) (a := 1) (by omega)
   rw [hend]
   by_cases h20 : Al BG u 1 ≤ 20
   ·(refine AA (AX rfl (AH rfl (Cy rfl rfl (by omega) (Ac (by rfl) (by rfl) ?_)))) <;> refine AH rfl (W_leqT rfl rfl (by omega) ?_))
    refine AZ (cs := [.int .i64 1, AI (u.take (Al BG u 1)), .int .i64 0]) rfl rfl rfl (A6 rfl) b1 (by simp) (fun w4 p4 => ?_)
    have b4 : Blk w4 w.heap.size 158 [.int .i64 1, AI (u.take (Al BG u 1)), .int .i64 0] := p4.blk
    refine AC (AD rfl ?_)
    repeat refine nx rfl ?_
    refine CM rfl rfl rfl b4.cells ⟨n1.keep.keep p4.keep (by simp), ?_⟩
    unfold Cb
    rw [hgd, if_pos hl, decide_eq_true h20]; rfl
   ·(refine AA (AX rfl (AH rfl (Cy rfl rfl (by omega) (Ac (by rfl) (by rfl) ?_)))) <;> refine AH rfl (W_leqF rfl rfl (by omega) ?_))
    refine AZ (cs := [.int .i64 1, AI (u.take (Al BG u 1)), .int .i64 0]) rfl rfl rfl (A6 rfl) b1 (by simp) (fun w4 p4 => ?_)
    have b4 : Blk w4 w.heap.size 158 [.int .i64 1, AI (u.take (Al BG u 1)), .int .i64 0] := p4.blk
    refine AC (AD rfl ?_)
    repeat refine nx rfl ?_
    refine CM rfl rfl rfl b4.cells ⟨n1.keep.keep p4.keep (by simp), ?_⟩
    unfold Cb
    rw [hgd, if_pos hl, decide_eq_false h20]; rfl
 | false =>
  repeat first | refine nx rfl ?_ | refine nf rfl ?_
  refine AA (AX rfl (Bk rfl rfl (by assumption) ?_))
  refine AO (rdig_ok c _) rfl ?_
  rintro v w' ⟨rfl, rfl⟩
  refine AJ ?_
  cases hd : As c with
  | true =>
   repeat refine nx rfl ?_
   refine Bi (α := Nat) (fun n => [(0, AI u), (2, pt w.heap.size), (3, .bool false), (4, .int .i64 (n : Int))]) (fun n W => n ≤ u.length ∧ 0 ≤ n ∧ Al As u n = Al As u 0 ∧ W = w') (fun n => u.length - n) 0 ⟨rfl, rfl, rfl, rfl, trivial⟩ ⟨by omega, Nat.le_refl _, rfl, rfl⟩ ?_
   rintro n w3 f3 ⟨hn, hn0, hw, rfl⟩
   repeat refine nx rfl ?_
   by_cases hlt : n < u.length
   ·have hcn : u[n]? = some u[n] := List.getElem?_eq_getElem hlt
    generalize u[n] = d at hcn
    refine AA (AH rfl (AX rfl (BD rfl (BX rfl rfl (by omega) (AD rfl (AE rfl (AX rfl (AE rfl (AH rfl (AE rfl (Bk rfl rfl (by assumption) ?_)))))))))))
    refine AE rfl (AO (rdig_ok d _) rfl ?_)
    rintro v w' ⟨rfl, rfl⟩
    refine AN rfl (AD rfl (AJ ?_))
    cases hp : As d with
    | true =>
     repeat refine nx rfl ?_
     (refine AA (AH rfl (Bq rfl rfl (by first | exact Ar (by omega) (by omega) | exact A3 (by omega) (by omega) | exact Aq (by omega) (by omega)) ?_)) <;> refine AC (AH rfl ?_))
     repeat refine nx rfl ?_
     refine ⟨n + 1, ⟨rfl, ⟨rfl, rfl, rfl, ?_, trivial⟩, ⟨by omega, by omega, (Bj hcn hp).symm.trans hw, rfl⟩⟩, by omega⟩
     show Value.int .i64 ((n : Int) + 1) = _
     rw [Int.natCast_add]; rfl
    | false =>
     have hwn := whileB_stop hcn hp
     repeat first | refine nx rfl ?_ | refine nf rfl ?_
     have hend : n = Al As u 0 := by omega
     have hwl := Bs (p := As) (t := u) (a := 0) (by omega)
     have hge1 : 1 ≤ Al As u 0 := by
      have h1 := Bj (p := As) hc0 hd
      have h2 := B0 As u (0 + 1)
      omega
     have hnx : Cb u = (2, Al As u 0, !BL u 0) := by
      unfold Cb
      rw [hgd, hl, hd]; rfl
     rw [hend]
     clear hend hwn hw
     generalize hN : Al As u 0 = N at hwl hge1 hnx
     have hnb : BL u 0 = (decide (4 < N) || (decide (1 < N) && decide (c.toNat = 48)) || (decide (N < u.length) && (CL (u.getD N 0) || decide ((u.getD N 0).toNat = 95)))) := by
      unfold BL
      rw [hN, hgd, Nat.sub_zero]
     refine Cp (α := Unit) (fun _ => [(0, AI u), (2, pt w.heap.size), (3, .bool false), (4, .int .i64 (N : Int)), (5, .bool (decide (N < u.length) && (CL (u.getD N 0) || decide ((u.getD N 0).toNat = 95))))]) (fun _ W => Ext w W ∧ Blk W w.heap.size 158 [.int .i64 0, AI [], .int .i64 0]) ?_ ?_
     ·by_cases hlt : N < u.length
      ·have hcn : u[N]? = some u[N] := List.getElem?_eq_getElem hlt
       generalize u[N] = d at hcn
       have hgn : u.getD N 0 = d := by simp [List.getD_eq_getElem?_getD, hcn]
       rw [hgn, decide_eq_true hlt, Bool.true_and]
       refine AA (AH rfl (AX rfl (BD rfl (BX rfl rfl (by omega) (AD rfl (AE rfl (AX rfl (AE rfl (AH rfl (AE rfl (Bk rfl rfl (by assumption) ?_)))))))))))
       refine AE rfl (AO (rlow_ok d _) rfl ?_)
       rintro v w' ⟨rfl, rfl⟩
       cases hsd : BP d with
       | true =>
        refine AE rfl (AD rfl (AM rfl (AM rfl (AM rfl (AM rfl (AE rfl (AN rfl (AD rfl (AE rfl (AD rfl (AM rfl (AM rfl (AM rfl (AM rfl (AE rfl (AN rfl (AD rfl (AN rfl (AD rfl (AC (AD rfl (AJ ?_))))))))))))))))))))))
        exact Ay () ⟨rfl, rfl, rfl, rfl, by simp [upd, Nat.beq, CL, hsd], trivial⟩ ⟨n1.keep, b1⟩
       | false =>
        refine AE rfl (AD rfl (AE rfl (AX rfl (AE rfl (AH rfl (AE rfl (Bk rfl rfl (by assumption) ?_)))))))
        refine AE rfl (AO (rbig_ok d _) rfl ?_)
        rintro v w' ⟨rfl, rfl⟩
        cases hud : isUp d with
        | true =>
         refine AE rfl (AS rfl (AD rfl (AE rfl (AD rfl (AM rfl (AM rfl (AM rfl (AM rfl (AE rfl (AN rfl (AD rfl (AN rfl (AD rfl (AC (AD rfl (AJ ?_))))))))))))))))
         exact Ay () ⟨rfl, rfl, rfl, rfl, by simp [upd, Nat.beq, CL, hsd, hud], trivial⟩ ⟨n1.keep, b1⟩
        | false =>
         (refine AE rfl (AS rfl (AD rfl (AE rfl (AD rfl (AE rfl (AX rfl (AE rfl (AH rfl (AE rfl (Bk rfl rfl (by assumption) ?_)))))))))) <;> (refine AE rfl ?_; (refine Da rfl rfl (fun hc => ?_) (fun hc => ?_) <;> try omega)) <;> refine AE rfl (AS rfl (AD rfl (AN rfl (AD rfl (AC (AD rfl (AJ ?_))))))))
         all_goals exact Ay () ⟨rfl, rfl, rfl, rfl, by simp [upd, Nat.beq, CL, hsd, hud]; omega, trivial⟩ ⟨n1.keep, b1⟩
      ·rw [decide_eq_false hlt, Bool.false_and]
       refine AA (AH rfl (AX rfl (BD rfl (Bb rfl rfl (by omega) (AD rfl (AM rfl (AM rfl (AM rfl ?_))))))))
       refine AM rfl (AM rfl (AM rfl (AM rfl (AM rfl (AM rfl (AM rfl (AM rfl (AM rfl (AM rfl (AM rfl (AM rfl (AM rfl (AS rfl (AD rfl (AC (AD rfl (AJ ?_)))))))))))))))))
       exact Ay () ⟨rfl, rfl, rfl, rfl, by simp [upd, Nat.beq], trivial⟩ ⟨n1.keep, b1⟩
     rintro _ w4 f4 ⟨k4, b4⟩
     repeat refine nx rfl ?_
     generalize (decide (N < u.length) && (CL (u.getD N 0) || decide ((u.getD N 0).toNat = 95))) = glued at hnb
     refine A5 (.read 0 (.read 1 (.read 2 (.read 3 (.read 4 (.read 5 (.read 6 (.read 7 (.read 8 (.read 9 (.read 10 (.read 11 (.read 12 (.read 13 (.read 14 (.read 15 (.read 16 (.read 17 (.read 18 (.alt 19 (.read 20 .done) .stop)))))))))))))))))))) BC (by kernel_rfl) (fun wd kd ed => ⟨Keep [w.heap.size] w4, ?_, ?_⟩)
     ·exact kd.any
     have b5 := b4.keep kd (by simp)
     have hfin : ∀ r : Bool, r = !BL u 0 → ∀ (f : Fr) (w6 : World), Put wd w6 w.heap.size 158 [.int .i64 2, AI (u.take N), .int .i64 0] → f 2 = pt w.heap.size → f 3 = .bool r →
       C3 Tryz.prog Tryz.f100 (fun v w' => Ext w w' ∧ v = .tuple #[.agg #[.int .i64 (Cb u).1, AI (u.take (Cb u).2.1), .int .i64 0], .bool (Cb u).2.2]) (fun _ _ => False) .ret f [] w6 := by
      rintro r rfl f w6 p6 e2 e3
      refine CM rfl e2 rfl p6.blk.cells ⟨(k4.trans kd).keep p6.keep (by simp), ?_⟩
      rw [hnx, e3]
     cases glued <;> by_cases h4 : N ≤ 4 <;> by_cases hN1 : N = 1 <;> by_cases h48 : c.toNat = 48
     all_goals try (exfalso; omega)
     all_goals
      (refine D_R rfl rfl (fun W hW => AX rfl Z3) (D_R rfl rfl (fun W hW => AH rfl Z3) (D_R rfl rfl (fun W hW => Cy rfl rfl (by omega) Z3) ?_)) <;> (apply D_R rfl rfl; (intro W hW; refine Ac (by rfl) (by rfl) ?_; exact Z3)) <;> refine D_R rfl rfl (fun W hW => AH rfl Z3) ?_ <;> (refine D_leq rfl rfl rfl rfl (fun hc => ?_) (fun hc => ?_) <;> try omega) <;> refine D_R rfl rfl (fun W hW => AD rfl Z3) ?_ <;> (first | refine Ad rfl rfl rfl rfl ?_ | (apply D_R rfl rfl; (intro W hW; (refine AE rfl ?_; refine AD rfl ?_); exact AJ ⟨rfl, rfl, rfl⟩))) <;> (first | refine Ad rfl rfl rfl rfl ?_ | (apply D_R rfl rfl; (intro W hW; (refine AE rfl ?_; refine CF rfl ?_); exact AJ ⟨rfl, rfl, rfl⟩))) <;> (apply D_R rfl rfl; (intro W hW; ((first | refine AN rfl ?_ | refine AS rfl ?_); refine AD rfl ?_); exact Z3)) <;> refine D_R rfl rfl (fun W hW => AD rfl Z3) ?_ <;> (first | refine Ad rfl rfl rfl rfl ?_ | (apply D_R rfl rfl; (intro W hW; (refine AE rfl ?_; refine AH rfl ?_); exact AJ ⟨rfl, rfl, rfl⟩))) <;> (first | refine Ad rfl rfl rfl rfl ?_ | (refine D_eql rfl rfl rfl rfl (fun hc => ?_) (fun hc => ?_) <;> try omega)) <;> (first | refine Ad rfl rfl rfl rfl ?_ | (apply D_R rfl rfl; (intro W hW; (refine AE rfl ?_; refine AD rfl ?_); exact AJ ⟨rfl, rfl, rfl⟩))) <;> (first | refine Ad rfl rfl rfl rfl ?_ | (apply D_R rfl rfl; (intro W hW; refine AM rfl ?_; exact AJ ⟨rfl, rfl, rfl⟩)) | (apply D_R rfl rfl; (intro W hW; (refine AE rfl ?_; refine AX rfl ?_); exact AJ ⟨rfl, rfl, rfl⟩))) <;> (first | refine Ad rfl rfl rfl rfl ?_ | (apply D_R rfl rfl; (intro W hW; refine AM rfl ?_; exact AJ ⟨rfl, rfl, rfl⟩)) | (apply D_R rfl rfl; (intro W hW; (refine AE rfl ?_; refine Bk rfl rfl (by assumption) ?_); exact AJ ⟨rfl, rfl, rfl⟩))) <;> (first | refine Ad rfl rfl rfl rfl ?_ | (apply D_R rfl rfl; (intro W hW; refine AM rfl ?_; exact AJ ⟨rfl, rfl, rfl⟩)) | (refine D_neq rfl rfl rfl rfl (fun hc => ?_) (fun hc => ?_) <;> try omega)) <;> (first | refine Ad rfl rfl rfl rfl ?_ | (apply D_R rfl rfl; (intro W hW; (refine AE rfl ?_; ((first | refine AN rfl ?_ | refine AS rfl ?_); refine AD rfl ?_)); exact AJ ⟨rfl, rfl, rfl⟩))) <;> (apply D_R rfl rfl; (intro W hW; ((first | refine AN rfl ?_ | refine AS rfl ?_); refine AD rfl ?_); exact Z3)))
      refine D_E rfl ?_
      refine AZ (cs := [.int .i64 2, AI (u.take N), .int .i64 0]) rfl rfl rfl (A6 rfl) b5 (by simp) (fun w6 p6 => ?_)
      refine AJ ⟨fun W => W = w6, fun W hW => hW ▸ (kd.any.trans p6.keep (by simp)), rfl, ?_⟩
      ((apply D_R rfl rfl; (intro W hW; subst hW; (refine AC ?_; refine AD rfl ?_); exact Z3)) <;> refine Ax ?_)
      repeat refine nx rfl ?_
      refine hfin _ ?_ _ w6 p6 rfl rfl
      rw [hnb]
      simp [upd, Nat.beq, h4, hN1, h48] <;> omega
   ·obtain rfl : n = u.length := by omega
    have hwn := whileB_end (p := As) (t := u) (a := u.length) (by omega)
    have hend : u.length = Al As u 0 := by omega
    refine AA (AH rfl (AX rfl (BD rfl (Bb rfl rfl (by omega) (AD rfl (AM rfl (AM rfl (AM rfl ?_))))))))
    refine AM rfl (AS rfl (AD rfl ?_))
    repeat first | refine nx rfl ?_ | refine nf rfl ?_
    have hwl := Bs (p := As) (t := u) (a := 0) (by omega)
    have hge1 : 1 ≤ Al As u 0 := by
     have h1 := Bj (p := As) hc0 hd
     have h2 := B0 As u (0 + 1)
     omega
    have hnx : Cb u = (2, Al As u 0, !BL u 0) := by
     unfold Cb
     rw [hgd, hl, hd]; rfl
    rw [hend]
    clear hend hwn hw
    generalize hN : Al As u 0 = N at hwl hge1 hnx
    have hnb : BL u 0 = (decide (4 < N) || (decide (1 < N) && decide (c.toNat = 48)) || (decide (N < u.length) && (CL (u.getD N 0) || decide ((u.getD N 0).toNat = 95)))) := by
     unfold BL
     rw [hN, hgd, Nat.sub_zero]
    refine Cp (α := Unit) (fun _ => [(0, AI u), (2, pt w.heap.size), (3, .bool false), (4, .int .i64 (N : Int)), (5, .bool (decide (N < u.length) && (CL (u.getD N 0) || decide ((u.getD N 0).toNat = 95))))]) (fun _ W => Ext w W ∧ Blk W w.heap.size 158 [.int .i64 0, AI [], .int .i64 0]) ?_ ?_
    ·by_cases hlt : N < u.length
     ·have hcn : u[N]? = some u[N] := List.getElem?_eq_getElem hlt
      generalize u[N] = d at hcn
      have hgn : u.getD N 0 = d := by simp [List.getD_eq_getElem?_getD, hcn]
      rw [hgn, decide_eq_true hlt, Bool.true_and]
      refine AA (AH rfl (AX rfl (BD rfl (BX rfl rfl (by omega) (AD rfl (AE rfl (AX rfl (AE rfl (AH rfl (AE rfl (Bk rfl rfl (by assumption) ?_)))))))))))
      refine AE rfl (AO (rlow_ok d _) rfl ?_)
      rintro v w' ⟨rfl, rfl⟩
      cases hsd : BP d with
      | true =>
       refine AE rfl (AD rfl (AM rfl (AM rfl (AM rfl (AM rfl (AE rfl (AN rfl (AD rfl (AE rfl (AD rfl (AM rfl (AM rfl (AM rfl (AM rfl (AE rfl (AN rfl (AD rfl (AN rfl (AD rfl (AC (AD rfl (AJ ?_))))))))))))))))))))))
       exact Ay () ⟨rfl, rfl, rfl, rfl, by simp [upd, Nat.beq, CL, hsd], trivial⟩ ⟨n1.keep, b1⟩
      | false =>
       refine AE rfl (AD rfl (AE rfl (AX rfl (AE rfl (AH rfl (AE rfl (Bk rfl rfl (by assumption) ?_)))))))
       refine AE rfl (AO (rbig_ok d _) rfl ?_)
       rintro v w' ⟨rfl, rfl⟩
       cases hud : isUp d with
       | true =>
        refine AE rfl (AS rfl (AD rfl (AE rfl (AD rfl (AM rfl (AM rfl (AM rfl (AM rfl (AE rfl (AN rfl (AD rfl (AN rfl (AD rfl (AC (AD rfl (AJ ?_))))))))))))))))
        exact Ay () ⟨rfl, rfl, rfl, rfl, by simp [upd, Nat.beq, CL, hsd, hud], trivial⟩ ⟨n1.keep, b1⟩
       | false =>
        (refine AE rfl (AS rfl (AD rfl (AE rfl (AD rfl (AE rfl (AX rfl (AE rfl (AH rfl (AE rfl (Bk rfl rfl (by assumption) ?_)))))))))) <;> (refine AE rfl ?_; (refine Da rfl rfl (fun hc => ?_) (fun hc => ?_) <;> try omega)) <;> refine AE rfl (AS rfl (AD rfl (AN rfl (AD rfl (AC (AD rfl (AJ ?_))))))))
        all_goals exact Ay () ⟨rfl, rfl, rfl, rfl, by simp [upd, Nat.beq, CL, hsd, hud]; omega, trivial⟩ ⟨n1.keep, b1⟩
     ·rw [decide_eq_false hlt, Bool.false_and]
      refine AA (AH rfl (AX rfl (BD rfl (Bb rfl rfl (by omega) (AD rfl (AM rfl (AM rfl (AM rfl ?_))))))))
      refine AM rfl (AM rfl (AM rfl (AM rfl (AM rfl (AM rfl (AM rfl (AM rfl (AM rfl (AM rfl (AM rfl (AM rfl (AM rfl (AS rfl (AD rfl (AC (AD rfl (AJ ?_)))))))))))))))))
      exact Ay () ⟨rfl, rfl, rfl, rfl, by simp [upd, Nat.beq], trivial⟩ ⟨n1.keep, b1⟩
    rintro _ w4 f4 ⟨k4, b4⟩
    repeat refine nx rfl ?_
    generalize (decide (N < u.length) && (CL (u.getD N 0) || decide ((u.getD N 0).toNat = 95))) = glued at hnb
    refine A5 (.read 0 (.read 1 (.read 2 (.read 3 (.read 4 (.read 5 (.read 6 (.read 7 (.read 8 (.read 9 (.read 10 (.read 11 (.read 12 (.read 13 (.read 14 (.read 15 (.read 16 (.read 17 (.read 18 (.alt 19 (.read 20 .done) .stop)))))))))))))))))))) BC (by kernel_rfl) (fun wd kd ed => ⟨Keep [w.heap.size] w4, ?_, ?_⟩)
    ·exact kd.any
    have b5 := b4.keep kd (by simp)
    have hfin : ∀ r : Bool, r = !BL u 0 → ∀ (f : Fr) (w6 : World), Put wd w6 w.heap.size 158 [.int .i64 2, AI (u.take N), .int .i64 0] → f 2 = pt w.heap.size → f 3 = .bool r →
      C3 Tryz.prog Tryz.f100 (fun v w' => Ext w w' ∧ v = .tuple #[.agg #[.int .i64 (Cb u).1, AI (u.take (Cb u).2.1), .int .i64 0], .bool (Cb u).2.2]) (fun _ _ => False) .ret f [] w6 := by
     rintro r rfl f w6 p6 e2 e3
     refine CM rfl e2 rfl p6.blk.cells ⟨(k4.trans kd).keep p6.keep (by simp), ?_⟩
     rw [hnx, e3]
    cases glued <;> by_cases h4 : N ≤ 4 <;> by_cases hN1 : N = 1 <;> by_cases h48 : c.toNat = 48
    all_goals try (exfalso; omega)
    all_goals
     (refine D_R rfl rfl (fun W hW => AX rfl Z3) (D_R rfl rfl (fun W hW => AH rfl Z3) (D_R rfl rfl (fun W hW => Cy rfl rfl (by omega) Z3) ?_)) <;> (apply D_R rfl rfl; (intro W hW; refine Ac (by rfl) (by rfl) ?_; exact Z3)) <;> refine D_R rfl rfl (fun W hW => AH rfl Z3) ?_ <;> (refine D_leq rfl rfl rfl rfl (fun hc => ?_) (fun hc => ?_) <;> try omega) <;> refine D_R rfl rfl (fun W hW => AD rfl Z3) ?_ <;> (first | refine Ad rfl rfl rfl rfl ?_ | (apply D_R rfl rfl; (intro W hW; (refine AE rfl ?_; refine AD rfl ?_); exact AJ ⟨rfl, rfl, rfl⟩))) <;> (first | refine Ad rfl rfl rfl rfl ?_ | (apply D_R rfl rfl; (intro W hW; (refine AE rfl ?_; refine CF rfl ?_); exact AJ ⟨rfl, rfl, rfl⟩))) <;> (apply D_R rfl rfl; (intro W hW; ((first | refine AN rfl ?_ | refine AS rfl ?_); refine AD rfl ?_); exact Z3)) <;> refine D_R rfl rfl (fun W hW => AD rfl Z3) ?_ <;> (first | refine Ad rfl rfl rfl rfl ?_ | (apply D_R rfl rfl; (intro W hW; (refine AE rfl ?_; refine AH rfl ?_); exact AJ ⟨rfl, rfl, rfl⟩))) <;> (first | refine Ad rfl rfl rfl rfl ?_ | (refine D_eql rfl rfl rfl rfl (fun hc => ?_) (fun hc => ?_) <;> try omega)) <;> (first | refine Ad rfl rfl rfl rfl ?_ | (apply D_R rfl rfl; (intro W hW; (refine AE rfl ?_; refine AD rfl ?_); exact AJ ⟨rfl, rfl, rfl⟩))) <;> (first | refine Ad rfl rfl rfl rfl ?_ | (apply D_R rfl rfl; (intro W hW; refine AM rfl ?_; exact AJ ⟨rfl, rfl, rfl⟩)) | (apply D_R rfl rfl; (intro W hW; (refine AE rfl ?_; refine AX rfl ?_); exact AJ ⟨rfl, rfl, rfl⟩))) <;> (first | refine Ad rfl rfl rfl rfl ?_ | (apply D_R rfl rfl; (intro W hW; refine AM rfl ?_; exact AJ ⟨rfl, rfl, rfl⟩)) | (apply D_R rfl rfl; (intro W hW; (refine AE rfl ?_; refine Bk rfl rfl (by assumption) ?_); exact AJ ⟨rfl, rfl, rfl⟩))) <;> (first | refine Ad rfl rfl rfl rfl ?_ | (apply D_R rfl rfl; (intro W hW; refine AM rfl ?_; exact AJ ⟨rfl, rfl, rfl⟩)) | (refine D_neq rfl rfl rfl rfl (fun hc => ?_) (fun hc => ?_) <;> try omega)) <;> (first | refine Ad rfl rfl rfl rfl ?_ | (apply D_R rfl rfl; (intro W hW; (refine AE rfl ?_; ((first | refine AN rfl ?_ | refine AS rfl ?_); refine AD rfl ?_)); exact AJ ⟨rfl, rfl, rfl⟩))) <;> (apply D_R rfl rfl; (intro W hW; ((first | refine AN rfl ?_ | refine AS rfl ?_); refine AD rfl ?_); exact Z3)))
     refine D_E rfl ?_
     refine AZ (cs := [.int .i64 2, AI (u.take N), .int .i64 0]) rfl rfl rfl (A6 rfl) b5 (by simp) (fun w6 p6 => ?_)
     refine AJ ⟨fun W => W = w6, fun W hW => hW ▸ (kd.any.trans p6.keep (by simp)), rfl, ?_⟩
     ((apply D_R rfl rfl; (intro W hW; subst hW; (refine AC ?_; refine AD rfl ?_); exact Z3)) <;> refine Ax ?_)
     repeat refine nx rfl ?_
     refine hfin _ ?_ _ w6 p6 rfl rfl
     rw [hnb]
     simp [upd, Nat.beq, h4, hN1, h48] <;> omega
  | false =>
   repeat first | refine nx rfl ?_ | refine nf rfl ?_
   refine AA (AX rfl ?_)
   refine AO (rsymbol_ok u _) rfl ?_
   rintro v w3 ⟨rfl, k3⟩
   refine AC (AX rfl ?_)
   repeat refine nx rfl ?_
   have b3 := b1.keep k3 (by simp)
   have htk : symW u = u.take (symW u).length := by
    unfold symW
    cases hf : symsL.find? (Bv u) with
    | none => rfl
    | some y => exact (List.prefix_iff_eq_take.1 ((Cv _ _).1 (List.find?_some hf)))
   have hnx : Cb u = (3, (symW u).length, !decide (symW u = [])) := by
    unfold Cb
    rw [hgd, hl, hd]; rfl
   by_cases he : symW u = []
   ·(refine AA (AX rfl (Ac (by rfl) (by rfl) ?_)) <;> refine AX rfl ?_ <;> refine W_sneq rfl rfl (fun hc => ?_) (fun hc => ?_))
    ·exact absurd he (by assumption)
    ·refine AZ (cs := [.int .i64 3, AI (symW u), .int .i64 0]) rfl rfl rfl (A6 rfl) b3 (by simp) (fun w4 p4 => ?_)
     have b4 : Blk w4 w.heap.size 158 [.int .i64 3, AI (symW u), .int .i64 0] := p4.blk
     refine AC (AD rfl ?_)
     repeat refine nx rfl ?_
     refine CM rfl rfl rfl b4.cells ⟨(n1.keep.trans k3).keep p4.keep (by simp), ?_⟩
     rw [hnx]
     simp only
     rw [← htk, decide_eq_true he]; rfl
   ·(refine AA (AX rfl (Ac (by rfl) (by rfl) ?_)) <;> refine AX rfl ?_ <;> refine W_sneq rfl rfl (fun hc => ?_) (fun hc => ?_))
    ·refine AZ (cs := [.int .i64 3, AI (symW u), .int .i64 0]) rfl rfl rfl (A6 rfl) b3 (by simp) (fun w4 p4 => ?_)
     have b4 : Blk w4 w.heap.size 158 [.int .i64 3, AI (symW u), .int .i64 0] := p4.blk
     refine AC (AD rfl ?_)
     repeat refine nx rfl ?_
     refine CM rfl rfl rfl b4.cells ⟨(n1.keep.trans k3).keep p4.keep (by simp), ?_⟩
     rw [hnx]
     simp only
     rw [← htk, decide_eq_false he]; rfl
    ·exact absurd (by assumption) he
end Go.Proofs.YtfcgdbmoncnibaaGreatDoor
namespace Go.Proofs.YtfcgdbmoncnibaaGreatDoor
open Go.RowKit
set_option linter.unusedVariables false
variable {mk : Prop} [MK mk]
def kindOk (c : UInt8) : Bool := match DH c with
 | some 0 => isBlank c
 | some 1 => decide (c.toNat = 37)
 | some 2 => CL c
 | some 3 => !CL c && As c
 | some _ => !CL c && !As c
 | none => !CL c && !As c && symsL.all (fun y => decide (y.head? ≠ some c))
def gapOk (c : UInt8) : Bool := (!isBlank c || decide (DH c = some 0)) && (!decide (c.toNat = 37) || decide (DH c = some 1))
theorem kinds_all : ∀ n : Fin 256, (kindOk (UInt8.ofNat n.val) && gapOk (UInt8.ofNat n.val)) = true := by decide +kernel
theorem kind_all (c : UInt8) : kindOk c = true ∧ gapOk c = true := by
 have h := kinds_all ⟨c.toNat, c.toNat_lt⟩
 rw [Bool.and_eq_true] at h
 have e : UInt8.ofNat c.toNat = c := by simp
 simp only [e] at h
 exact h
theorem kind_blank {c : UInt8} (h : isBlank c = true) : DH c = some 0 := by
 have := (kind_all c).2
 simp only [gapOk, h, Bool.not_true, Bool.false_or, Bool.and_eq_true, decide_eq_true_eq] at this
 exact this.1
theorem kind_37 {c : UInt8} (h : c.toNat = 37) : DH c = some 1 := by
 have := (kind_all c).2
 simp only [gapOk, h, decide_true, Bool.not_true, Bool.false_or, Bool.and_eq_true, decide_eq_true_eq] at this
 exact this.2
theorem drop_split (t : List UInt8) {a : Nat} (h : a ≤ t.length) : t = t.take a ++ t.drop a ∧ (t.take a).length = a := ⟨(List.take_append_drop a t).symm, by simp; omega⟩
theorem whileB_drop (q : UInt8 → Bool) (t : List UInt8) {a : Nat} (h : a ≤ t.length) (j : Nat) : Al q t (a + j) = a + Al q (t.drop a) j := by
 obtain ⟨h1, h2⟩ := drop_split t h
 have := DJ (q := q) (t.take a) (t.drop a) j
 rw [← h1, h2] at this; exact this
theorem step_next (t : List UInt8) (a : Nat) (ts : List Tok) (ha : a < t.length) (h0 : DH (t.getD a 0) ≠ some 0) (h1 : DH (t.getD a 0) ≠ some 1) :
  BU t a ts = if (Cb (t.drop a)).2.2 = true then Cl t a ts (Cb (t.drop a)).1 (a + (Cb (t.drop a)).2.1) else .error (40, a) := by
 have hg : (t.drop a).getD 0 0 = t.getD a 0 := by simp [List.getD_eq_getElem?_getD]
 have hk := (kind_all (t.getD a 0)).1
 unfold kindOk at hk
 unfold BU Cb
 rw [hg]
 split at hk
 ·rename_i e; exact absurd e h0
 ·rename_i e; exact absurd e h1
 ·rename_i e
  rw [e, if_pos hk]
  simp only [Dl]
  rw [whileB_drop BG t (by omega) 1]
  by_cases h20 : Al BG (t.drop a) 1 ≤ 20
  ·rw [if_neg (by omega), if_pos (by simpa using h20)]
  ·rw [if_pos (by omega), if_neg (by simpa using h20)]
 ·rename_i e
  rw [e]
  rw [Bool.and_eq_true, Bool.not_eq_true'] at hk
  rw [hk.1, hk.2]
  simp only [Bool.false_eq_true, if_false, if_true, Df]
  obtain ⟨g1, g2⟩ := drop_split t (Nat.le_of_lt ha)
  have hnb : BL t a = BL (t.drop a) 0 := by
   have := numBad_sh (t.take a) (t.drop a) 0
   rw [← g1, g2] at this; exact this
  have hw := whileB_drop As t (Nat.le_of_lt ha) 0
  rw [Nat.add_zero] at hw
  rw [hnb, hw]
  cases BL (t.drop a) 0 <;> rfl
 ·rename_i k e0 e1 e2 e3 hkk
  simp only [Bool.and_eq_true, Bool.not_eq_true'] at hk
  rw [hk.1, hk.2]
  simp only [Bool.false_eq_true, if_false]
  have e0' : k ≠ 0 := e0
  have e1' : k ≠ 1 := e1
  have e2' : k ≠ 2 := e2
  have e3' : k ≠ 3 := e3
  obtain ⟨j, rfl⟩ : ∃ j, k = j + 4 := ⟨k - 4, by omega⟩
  rw [hkk]
  show symM t a ts = _
  unfold symM symW
  cases hf : symsL.find? (Bv (t.drop a)) with
  | none => rfl
  | some y =>
   have hne : ∀ y ∈ symsL, y ≠ [] := by decide
   have := hne y (List.mem_of_find?_eq_some hf)
   simp [this]
 ·rename_i e
  simp only [Bool.and_eq_true, Bool.not_eq_true'] at hk
  rw [e, hk.1.1, hk.1.2]
  simp only [Bool.false_eq_true, if_false]
  have hf : symsL.find? (Bv (t.drop a)) = none := by
   rw [List.find?_eq_none]
   intro y hy hp
   have h1 := (Cv _ _).1 hp
   have h2 := List.all_eq_true.1 hk.2 y hy
   have hne : ∀ y ∈ symsL, y ≠ [] := by decide
   match y, hne y hy, h1, h2 with
   | d :: y, _, h1, h2 =>
    obtain ⟨r, hr⟩ := h1
    have : (t.drop a).head? = some d := by rw [← hr]; rfl
    have hc : t[a]? = some t[a] := List.getElem?_eq_getElem ha
    rw [List.head?_drop, hc] at this
    rw [Dd hc] at h2
    simp at h2
    exact h2 (Option.some.inj this).symm
  unfold symW
  rw [hf]
  rfl
theorem gapW_ge (t : List UInt8) : ∀ (m a : Nat), t.length - a ≤ m → a ≤ t.length → a ≤ gapW t a ∧ gapW t a ≤ t.length ∧ gapW t (gapW t a) = gapW t a := by
 intro m
 induction m with
 | zero =>
  intro a hm ha
  obtain rfl : a = t.length := by omega
  rw [gapW_end]
  exact ⟨Nat.le_refl _, Nat.le_refl _, gapW_end⟩
 | succ m ih =>
  intro a hm ha
  by_cases h : a < t.length
  ·have hc : t[a]? = some t[a] := List.getElem?_eq_getElem h
   rw [gapW_step hc]
   split
   ·rename_i h37
    have h1 := Bs (p := BN) (t := t) (a := a) (by omega)
    have h2 := Bj (p := BN) hc (by simp [BN, h37])
    have h3 := B0 BN t (a + 1)
    have := ih (Al BN t a) (by omega) h1
    exact ⟨by omega, this.2⟩
   ·split
    ·have := ih (a + 1) (by omega) (by omega)
     exact ⟨by omega, this.2⟩
    ·rename_i h1 h2
     refine ⟨Nat.le_refl _, by omega, ?_⟩
     rw [gapW_step hc, if_neg h1, if_neg h2]
  ·obtain rfl : a = t.length := by omega
   rw [gapW_end]
   exact ⟨Nat.le_refl _, Nat.le_refl _, gapW_end⟩
theorem scan_gap (t : List UInt8) (ts : List Tok) : ∀ (m a : Nat), t.length - a ≤ m → a ≤ t.length → scanW t a ts = scanW t (gapW t a) ts := by
 intro m
 induction m with
 | zero =>
  intro a hm ha
  obtain rfl : a = t.length := by omega
  rw [gapW_end]
 | succ m ih =>
  intro a hm ha
  by_cases h : a < t.length
  ·have hc : t[a]? = some t[a] := List.getElem?_eq_getElem h
   have hg : t.getD a 0 = t[a] := Dd hc
   rw [gapW_step hc]
   split
   ·rename_i h37
    have h1 := Bs (p := BN) (t := t) (a := a) (by omega)
    have h2 := Bj (p := BN) hc (by simp [BN, h37])
    have h3 := B0 BN t (a + 1)
    rw [DI h]
    have : BU t a ts = .ok (Al BN t a, ts) := by unfold BU; rw [hg, kind_37 h37]; rfl
    rw [this]
    exact ih _ (by omega) h1
   ·split
    ·rename_i hb
     rw [DI h]
     have : BU t a ts = .ok (a + 1, ts) := by unfold BU; rw [hg, kind_blank hb]; rfl
     rw [this]
     exact ih _ (by omega) (by omega)
    ·rfl
  ·obtain rfl : a = t.length := by omega
   rw [gapW_end]
theorem gap_stop {t : List UInt8} {i : Nat} (hi : i < t.length) (h : gapW t i = i) : DH (t.getD i 0) ≠ some 0 ∧ DH (t.getD i 0) ≠ some 1 := by
 have hc : t[i]? = some t[i] := List.getElem?_eq_getElem hi
 have hg : t.getD i 0 = t[i] := Dd hc
 rw [gapW_step hc] at h
 rw [hg]
 refine ⟨fun e => ?_, fun e => ?_⟩
 ·obtain ⟨h1, h2⟩ := kindB_0 e
  rw [if_neg h1, if_pos h2] at h
  have := (gapW_ge t _ (i + 1) (Nat.le_refl _) (by omega)).1
  omega
 ·have h37 := kindB_1 e
  rw [if_pos h37] at h
  have h1 := Bs (p := BN) (t := t) (a := i) (by omega)
  have h2 := Bj (p := BN) hc (by simp [BN, h37])
  have h3 := B0 BN t (i + 1)
  have := (gapW_ge t _ (Al BN t i) (Nat.le_refl _) h1).1
  omega
theorem gapW_drop (t : List UInt8) {a : Nat} (h : a ≤ t.length) : gapW t a = a + gapW (t.drop a) 0 := by
 obtain ⟨h1, h2⟩ := drop_split t h
 have := gapW_sh (t.take a) (t.drop a) 0 (by omega)
 rw [← h1, h2, Nat.add_zero] at this; exact this
theorem nextM_pos {u : List UInt8} (h : 1 ≤ u.length) (hr : (Cb u).2.2 = true) : 1 ≤ (Cb u).2.1 ∧ (Cb u).2.1 ≤ u.length := by
 unfold Cb at hr ⊢
 split
 ·have := B0 BG u 1
  have := Bs (p := BG) (t := u) (a := 1) h
  simp only; omega
 ·split
  ·rename_i hd
   have hc : u[0]? = some u[0] := List.getElem?_eq_getElem (by omega)
   rw [Dd hc] at hd
   have := Bj (p := As) hc hd
   have := B0 As u (0 + 1)
   have := Bs (p := As) (t := u) (a := 0) (by omega)
   simp only; omega
  ·rename_i h1 h2
   rw [if_neg h1, if_neg h2] at hr
   simp only [Bool.not_eq_true', decide_eq_false_iff_not] at hr
   simp only
   have hl : (symW u).length ≤ u.length := by
    unfold symW
    cases hf : symsL.find? (Bv u) with
    | none => simp
    | some y => exact ((Cv _ _).1 (List.find?_some hf)).length_le
   have : (symW u).length ≠ 0 := fun e => hr (List.eq_nil_of_length_eq_zero e)
   omega
theorem madeTok : (madeCells (Value.agg #[.int .i64 0, AI [], .int .i64 0]).cells (1 * 3)).toList = [.int .i64 0, AI [], .int .i64 0] := by kernel_rfl
theorem reflex_ok (w : World) (t : List UInt8) : Fn Tryz.prog 58 [AI t] w fun v w' => ∃ a c e q ts, v = .tuple #[.slice a ts.length c, .int .i64 e, .int .i64 q] ∧ Ext w w' ∧ Toks w' a c ts ∧
  ((Ct t = .ok ts ∧ e = 0 ∧ q = -1) ∨ ∃ p : Nat, Ct t = .error (e, p) ∧ e ≠ 0 ∧ q = (p : Int) ∧ ts = []) := by
 have hnil : ∀ W : World, Toks W none 0 [] := fun W => ⟨none, 0, rfl, by simp, by omega, fun _ => rfl, .inl rfl⟩
 refine Af Tryz.func58 rfl Tryz.ntmps58 (Nat.le_of_ble_eq_true rfl) (by kernel_rfl) ?_
 repeat refine nx rfl ?_
 refine AA (AC (Ab rfl (AC (AH rfl (AC (AH rfl ?_))))))
 repeat refine nx rfl ?_
 by_cases hl : 6000 < t.length
 ·refine AA (AX rfl (BD rfl (W_gtrT rfl rfl (by omega) ?_)))
  repeat refine nx rfl ?_
  refine AA (AC (Ab rfl (AC (AH rfl (AC (AH rfl ?_))))))
  repeat refine nx rfl ?_
  exact fin_ret3 rfl ⟨none, 0, 2, 6000, [], rfl, Ext.refl _, hnil _, .inr ⟨6000, by unfold Ct; rw [if_pos hl], by decide, rfl, rfl⟩⟩
 have hlex := lexM_of (t := t) (by omega)
 refine AA (AX rfl (BD rfl (W_gtrF rfl rfl (by omega) ?_)))
 repeat first | refine nx rfl ?_ | refine nf rfl ?_
 refine AA ?_
 refine AT (out := []) rfl (by omega) (by kernel_rfl) (fun w1 n1 => ?_)
 have o1 := n1.own (n := 0) (size := 3) rfl (by unfold maxLen; omega) (Nat.le_refl _)
 have z1 := n1.size
 refine AC (Ab rfl ?_)
 repeat refine nx rfl ?_
 refine AA (AX rfl ?_)
 refine AO (gap_ok t w1 (by omega)) rfl ?_
 rintro v w2 ⟨rfl, rfl⟩
 refine AC (AH rfl ?_)
 repeat refine nx rfl ?_
 have hg0 := gapW_ge t _ 0 (Nat.le_refl _) (by omega)
 have hsg0 := scan_gap t [] _ 0 (Nat.le_refl _) (by omega)
 refine Bi (α := Nat × Value × List Tok) (fun x => [(0, AI t), (5, x.2.1), (6, .int .i64 (x.1 : Int))])
  (fun x W => x.1 ≤ t.length ∧ gapW t x.1 = x.1 ∧ x.2.2.length ≤ 2000 ∧ Ext w W ∧ w.heap.size < W.heap.size ∧ W.ownsRow w.heap.size 158 3 x.2.1 x.2.2.length (DG x.2.2) ∧ scanW t 0 [] = scanW t x.1 x.2.2) (fun x => t.length - x.1)
  (gapW t 0, .slice (some ⟨w.heap.size, 0, none⟩) 0 0, []) ⟨rfl, rfl, rfl, trivial⟩ ⟨hg0.2.1, hg0.2.2, by simp, n1.keep, by omega, o1, hsg0⟩ ?_
 rintro ⟨i, ov, ts⟩ w3 f3 ⟨hi, hgi, hc3, k3, z3, o3, hscan⟩
 simp only at hi hgi hc3 k3 z3 o3 hscan ⊢
 obtain ⟨oa, oc, rfl⟩ : ∃ oa oc, ov = .slice oa ts.length oc := by
  rcases o3.2 with ⟨rfl, h0⟩ | ⟨g, cap, cur, rfl, _⟩
  ·exact ⟨none, 0, by rw [h0]⟩
  ·exact ⟨_, _, rfl⟩
 repeat refine nx rfl ?_
 by_cases hlt : i < t.length
 ·have hdl : (t.drop i).length = t.length - i := by simp
  obtain ⟨hk0, hk1⟩ := gap_stop hlt hgi
  have hstep := step_next t i ts hlt hk0 hk1
  refine AA (AH rfl (AX rfl (BD rfl (BX rfl rfl (by omega) ?_))))
  repeat refine nx rfl ?_
  refine AA (AX rfl (AH rfl (W_sslice_l rfl rfl (by omega) ?_)))
  refine AO (rnext_ok (t.drop i) w3 (by omega) (by omega)) rfl ?_
  rintro v w4 ⟨k4, rfl⟩
  generalize hnx : Cb (t.drop i) = x at hstep
  obtain ⟨kd, n, ok⟩ := x
  simp only at hstep
  have htext : (t.drop i).take n = (t.take (i + n)).drop i := by rw [List.drop_take]; congr 1; omega
  refine BY rfl (AW rfl rfl (AW rfl rfl ?_))
  refine A2 (cs := [.int .i64 kd, AI ((t.drop i).take n), .int .i64 0]) rfl rfl (by rfl) (A6 rfl) (fun w5 n5 => ?_)
  have b5 := n5.blk
  have k5 : Ext w3 w5 := k4.trans n5.keep
  have z5 := k5.size
  have z45 := k4.size
  refine AC (AD rfl ?_)
  repeat refine nx rfl ?_
  refine AA (AD rfl (CF rfl (AJ ?_)))
  cases ok with
  | false =>
   rw [if_neg (by simp)] at hstep
   repeat refine nx rfl ?_
   refine AA (AH rfl (AC (Ab rfl (AC (AH rfl (AC (AH rfl ?_)))))))
   repeat refine nx rfl ?_
   refine fin_ret3 rfl ⟨none, 0, 40, i, [], rfl, k3.trans k5, hnil _, .inr ⟨i, ?_, by decide, rfl, rfl⟩⟩
   rw [hlex, hscan, DI hlt, hstep]
  | true =>
   rw [if_pos rfl] at hstep
   have hpos := nextM_pos (u := t.drop i) (by omega) (by rw [hnx])
   rw [hnx, hdl] at hpos
   simp only at hpos
   have htl : ((t.drop i).take n).length = n := by simp; omega
   repeat first | refine nx rfl ?_ | refine nf rfl ?_
   by_cases h2000 : ts.length = 2000
   ·have e : Cl t i ts kd (i + n) = .error (2, i) := by unfold Cl; rw [if_pos h2000]
    rw [e] at hstep
    refine AA (Ab rfl (At rfl (BQ rfl rfl (by omega) ?_)))
    repeat refine nx rfl ?_
    refine AA (AH rfl (AC (Ab rfl (AC (AH rfl (AC (AH rfl ?_)))))))
    repeat refine nx rfl ?_
    refine fin_ret3 rfl ⟨none, 0, 2, i, [], rfl, k3.trans k5, hnil _, .inr ⟨i, ?_, by decide, rfl, rfl⟩⟩
    rw [hlex, hscan, DI hlt, hstep]
   ·have e : Cl t i ts kd (i + n) = .ok (i + n, ts ++ [⟨kd, (t.take (i + n)).drop i, i⟩]) := by unfold Cl; rw [if_neg h2000]
    rw [e, ← htext] at hstep
    generalize hT : (t.drop i).take n = y at hstep b5 htl
    refine AA (Ab rfl (At rfl (BA rfl rfl (by omega) ?_)))
    repeat first | refine nx rfl ?_ | refine nf rfl ?_
    refine AA (AH rfl (AB rfl ?_))
    refine Ai rfl rfl rfl b5 (by simp) (fun w6 p6 => ?_)
    have b6 : Blk w6 w4.heap.size 158 [.int .i64 kd, AI y, .int .i64 (i : Int)] := p6.blk
    have k6 : Ext w3 w6 := k5.keep p6.keep (by simp <;> omega)
    have z6 := p6.size
    repeat refine nx rfl ?_
    refine AA (Ab rfl (AU rfl (by assumption) (by rfl) ?_))
    refine AT (out := tokC ⟨kd, y, i⟩) rfl (by omega) (by rw [madeTok]; rfl) (fun w7 n7 => ?_)
    have o7 := n7.own (n := 1) (size := 3) rfl (by unfold maxLen; omega) (Nat.le_refl _)
    have z7 := n7.size
    have k7 : Ext w3 w7 := k6.trans n7.keep
    have b7 := b6.keep n7.keep (by simp)
    have hown : ∀ x ∈ (Value.slice oa ts.length oc).ownBlock.toList, w.heap.size ≤ x ∧ x < w3.heap.size := fun x hx => Bt o3 (Option.mem_toList.1 hx)
    refine CW (ok := BS) (v := .slice oa ts.length oc) rfl rfl (B6 o3 k7) (BI o7 fun _ _ => trivial) (by omega) rfl rfl (A6 rfl) (by omega) (by omega) (by omega) (fun v8 w8 a8 => ?_)
    have o8 := a8.own
    have z8 := a8.keep.size
    have b8 := b7.keep a8.keep (fun hx => by have := hown _ hx; omega)
    have k8 : Ext w w8 := (k3.trans k7).keep a8.keep (fun x hx => (hown x hx).1)
    refine AC (A0 ?_)
    repeat refine nx rfl ?_
    (refine AA (AH rfl (AB rfl (AG rfl (Blk.cell (by assumption) (by rfl)) ?_))) <;> refine BD rfl (Bq rfl rfl (by first | exact Ar (by omega) (by omega) | exact A3 (by omega) (by omega) | exact Aq (by omega) (by omega)) ?_) <;> refine AC (AH rfl ?_))
    repeat refine nx rfl ?_
    have hin : (i : Int) + (y.length : Int) = ((i + n : Nat) : Int) := by rw [htl]; omega
    rw [hin]
    refine AA (AH rfl (AX rfl (AH rfl (W_sslice_l rfl rfl (by omega) ?_))))
    refine AO (gap_ok (t.drop (i + n)) w8 (by simp; omega)) rfl ?_
    rintro v w9 ⟨rfl, rfl⟩
    have hgd := gapW_drop t (a := i + n) (by omega)
    have hgg := gapW_ge t _ (i + n) (Nat.le_refl _) (by omega)
    have hsg := scan_gap t (ts ++ [⟨kd, y, i⟩]) _ (i + n) (Nat.le_refl _) (by omega)
    (refine Bq rfl rfl (by first | exact Ar (by omega) (by omega) | exact A3 (by omega) (by omega) | exact Aq (by omega) (by omega)) ?_ <;> refine AC (AH rfl ?_))
    repeat refine nx rfl ?_
    refine ⟨(gapW t (i + n), v8, ts ++ [⟨kd, y, i⟩]), ⟨rfl, ⟨rfl, rfl, ?_, trivial⟩, ⟨hgg.2.1, hgg.2.2, by simp; omega, k8, by omega, ?_, ?_⟩⟩, by simp only; omega⟩
    ·show Value.int .i64 (((i + n : Nat) : Int) + (gapW (t.drop (i + n)) 0 : Int)) = _
     rw [hgd]; rw [← Int.natCast_add]
    ·have e1 : DG (ts ++ [⟨kd, y, i⟩]) = DG ts ++ tokC ⟨kd, y, i⟩ := by simp [DG]
     rw [e1, List.length_append]
     exact o8
    ·rw [hscan, DI hlt, hstep]
     exact hsg
 ·obtain rfl : i = t.length := by omega
  refine AA (AH rfl (AX rfl (BD rfl (Bb rfl rfl (by omega) ?_))))
  repeat first | refine nx rfl ?_ | refine nf rfl ?_
  refine AA (Ab rfl (AC (Ab rfl (AC (AH rfl (AC (AH rfl ?_)))))))
  repeat refine nx rfl ?_
  refine fin_ret3 rfl ⟨oa, oc, 0, -1, ts, rfl, k3, BI (ok := BS) o3 (fun _ _ => trivial), .inl ⟨?_, rfl, rfl⟩⟩
  rw [hlex, hscan, scanW_end]
end Go.Proofs.YtfcgdbmoncnibaaGreatDoor
namespace Go.Proofs.YtfcgdbmoncnibaaGreatDoor
open Go.RowKit
set_option linter.unusedVariables false
def longM (t : List UInt8) : Bool := decide (9000 < t.length) || (match Ct t with | .error e => decide (e.1 = 2) | .ok _ => false)
theorem long_ok (w : World) (t : List UInt8) : Fn Tryz.prog 24 [AI t] w fun u w' => u = .bool (longM t) ∧ Ext w w' := by
 refine Af Tryz.func24 rfl Tryz.ntmps24 (Nat.le_of_ble_eq_true rfl) (by kernel_rfl) ?_
 repeat refine nx rfl ?_
 refine AA (AC (AD rfl ?_))
 repeat refine nx rfl ?_
 (refine AA (AX rfl (BD rfl ?_)) <;> (refine W_gtr rfl rfl (fun hc => ?_) (fun hc => ?_) <;> try omega))
 ·repeat refine nx rfl ?_
  refine AA (AC (AD rfl ?_))
  repeat refine nx rfl ?_
  refine AQ rfl ⟨?_, Ext.refl _⟩
  unfold longM
  rw [decide_eq_true (by omega)]; rfl
 repeat first | refine nx rfl ?_ | refine nf rfl ?_
 refine AA (AX rfl ?_)
 refine AO (reflex_ok w t) rfl ?_
 rintro _ w1 ⟨a, c, e, q, ts, rfl, k1, _, h⟩
 refine BY rfl (AW rfl rfl (AW rfl rfl (AW rfl rfl (AC (Ab rfl (AC (AH rfl (AC (AH rfl ?_)))))))))
 repeat refine nx rfl ?_
 have hd : decide (9000 < t.length) = false := decide_eq_false (by omega)
 rcases h with ⟨hm, rfl, _⟩ | ⟨p, hm, _, _, _⟩
 ·refine AA (AH rfl (BA rfl rfl (by omega) (AC (AD rfl ?_))))
  repeat refine nx rfl ?_
  refine AQ rfl ⟨?_, k1⟩
  unfold longM
  rw [hd, hm]; rfl
 ·by_cases he : e = 2
  ·refine AA (AH rfl (BQ rfl rfl (by omega) (AC (AD rfl ?_))))
   repeat refine nx rfl ?_
   refine AQ rfl ⟨?_, k1⟩
   unfold longM
   rw [hd, hm]; simp [he]; rfl
  ·refine AA (AH rfl (BA rfl rfl (by omega) (AC (AD rfl ?_))))
   repeat refine nx rfl ?_
   refine AQ rfl ⟨?_, k1⟩
   unfold longM
   rw [hd, hm]; simp [he]; rfl
theorem not_long {nt : NT} {t : List UInt8} {v : nt.T} (h : (∃ p, Ct t = .error (2, p)) ∨ PRes nt t (.ok v)) (hl : longM t = false) : PRes nt t (.ok v) := by
 refine h.resolve_left ?_
 rintro ⟨p, e⟩
 unfold longM at hl
 rw [e] at hl; simp at hl
theorem back_F {f : Fml} (hok : okF f = true) (hl : longM (prF 0 f) = false) {o : Out Fml} (h : PRes .formula (prF 0 f) o) : o = .ok f := h.det (not_long (fml_back hok) hl)
theorem back_S {s : Spc} (hok : DE s = true) (hl : longM (spcT s) = false) {o : Out Spc} (h : PRes .spec (spcT s) o) : o = .ok s := h.det (not_long (spc_back hok) hl)
theorem back_D {e : Edt} (hok : okE e = true) (hl : longM (edtT e) = false) {o : Out Edt} (h : PRes .edit (edtT e) o) : o = .ok e := h.det (not_long (edt_back hok) hl)
theorem unm_keep {w w' w'' : World} (hu : ∀ b, w.heap.size ≤ b → Unm w' b) (k : Ext w' w'') : ∀ b, (fresh w b ∧ b < w'.heap.size) → Unm w'' b :=
 fun b hb => (hu b hb.1).eq (k.block b hb.2 (by simp))
theorem cmp_ok (w w1 w2 : World) (v : Value) (f g : Fml) (c : List Value) (hf : FAt BS w2 v f) (hg : fmlR.fits (fresh w) w1 c g) (hu : ∀ b, w.heap.size ≤ b → Unm w1 b) (k : Ext w1 w2) (hz : szF f ≤ 1000000) :
  Fn Tryz.prog 26 [v, .agg c.toArray] w2 fun r w' => r = .int .i64 (cmpF f g) ∧ Ext w2 w' :=
 fcompare_ok w2 v _ f g BS _ hf ((fmlR.lt hg).2.ext k) (.inr (unm_keep hu k)) hz
theorem cmpF_self (f : Fml) : cmpF f f = 0 := (cmpF_zero f f).2 rfl
theorem fit_any {α : Type} (R : Rp α) {ok : Nat → Prop} {w w' : World} {c : List Value} {a : α} (h : R.fits ok w c a) (k : Ext w w') : R.fits BS w' c a := R.mono (R.ext h k) fun _ _ => trivial
theorem fT_eq {f : Fml} (h : okF f = true) : fT f = prF 0 f := by unfold fT; rw [if_pos h]
theorem sT_eq {s : Spc} (h : DE s = true) : sT s = spcT s := by unfold sT; rw [if_pos h]
theorem dT_eq {e : Edt} (h : okE e = true) : dT e = edtT e := by unfold dT; rw [if_pos h]
end Go.Proofs.YtfcgdbmoncnibaaGreatDoor
namespace Go.Proofs.YtfcgdbmoncnibaaGreatDoor
open Go.RowKit
set_option linter.unusedVariables false
def okB {α : Type} : Out α → Bool
 | .ok _ => true
 | .error _ => false
theorem okB_e {nt : NT} {t : List UInt8} {o : Out nt.T} (h : PRes nt t o) : (o.errno = 0 ∧ okB o = true) ∨ (o.errno ≠ 0 ∧ okB o = false) := by
 cases o with
 | ok a => exact .inl ⟨rfl, rfl⟩
 | error e => exact .inr ⟨h.ne, rfl⟩
set_option maxHeartbeats 1600000 in
theorem canonical_ok (w : World) (t : List UInt8) (hG : GP w) (hF : GF w) :
  Fn Tryz.prog 9 [AI t] w fun u w' => u = .bool true ∧ Ext w w' := by
 refine Af Tryz.func9 rfl Tryz.ntmps9 (Nat.le_of_ble_eq_true rfl) (by kernel_rfl) ?_
 repeat refine nx rfl ?_
 refine AA (AC (AD rfl ?_))
 repeat refine nx rfl ?_
 refine AA ?_
 refine AO (head_ok w hG hF) rfl ?_
 rintro _ w1 ⟨rfl, k1⟩
 refine AC (AD rfl ?_)
 repeat refine nx rfl ?_
 (refine AA (AX rfl (BD rfl ?_)) <;> (refine W_gtr rfl rfl (fun hc => ?_) (fun hc => ?_) <;> try omega))
 ·repeat refine nx rfl ?_
  refine AA (AD rfl (AC (AD rfl ?_)))
  repeat refine nx rfl ?_
  exact AQ rfl ⟨rfl, k1⟩
 repeat first | refine nx rfl ?_ | refine nf rfl ?_
 refine AA (AX rfl ?_)
 refine AO (parseU_F w1 t (hG.ext k1).gk) rfl ?_
 rintro _ w2 ⟨o, c, pF, rfl, k2, fF, uF⟩
 refine BY rfl (AW rfl rfl (AW rfl rfl (AW rfl rfl ?_)))
 refine A2 (cs := c) rfl (fmlR.len fF) (by rfl) (fmlR.one fF) (fun w3 n3 => ?_)
 have k13 := k2.trans n3.keep
 have k03 := k1.trans k13
 refine AC (AH rfl (AC (AH rfl (AJ ?_))))
 repeat' first | refine AJ ?_ | refine Q_then ?_ | refine C_seq ?_
 refine Cp (α := Unit) (fun _ => [(0, AI t), (3, .bool true), (4, pt w2.heap.size), (35, .bool (okB o))]) (fun _ W => w3 = W) ?_ ?_
 ·rcases okB_e pF with ⟨he, hb⟩ | ⟨he, hb⟩
  ·rw [hb]
   refine AA (AH rfl (BQ rfl rfl (by omega) ?_))
   repeat refine nx rfl ?_
   exact Ay () ⟨rfl, rfl, rfl, rfl, trivial⟩ rfl
  ·rw [hb]
   refine AA (AH rfl (BA rfl rfl (by omega) ?_))
   repeat refine nx rfl ?_
   exact Ay () ⟨rfl, rfl, rfl, rfl, trivial⟩ rfl
 rintro _ _ f3 rfl
 repeat' first | refine AJ ?_ | refine Q_then ?_ | refine C_seq ?_
 refine Cp (α := Unit) (fun _ => [(0, AI t), (3, .bool true)]) (fun _ W => Ext w W) ?_ ?_
 ·cases o with
  | error e =>
   repeat first | refine nx rfl ?_ | refine nf rfl ?_
   exact Ay () ⟨rfl, rfl, trivial⟩ k03
  | ok f =>
  obtain ⟨hok, hsz⟩ := fml_parsed pF
  have ht := fT_eq hok
  have hne := fml_ne hok
  have hbk := @back_F f hok
  have hf3 := (fit_any fmlR fF n3.keep).2
  have b3 := n3.blk
  have hl3 := fmlR.len fF
  generalize w2.heap.size = p at b3
  clear n3 fF uF pF k13 k2 k1
  repeat refine nx rfl ?_
  refine AA (AU rfl b3 hl3 ?_)
  refine AO (prtF_ok w3 _ f hf3 (hG.ext k03) (by omega)) rfl ?_
  rintro _ w4 ⟨rfl, k4⟩
  rw [ht]
  generalize prF 0 f = tx at hne hbk ht
  refine AC (AX rfl ?_)
  repeat refine nx rfl ?_
  refine AA (AX rfl ?_)
  refine AO (parseU_F w4 tx (hG.ext (k03.trans k4)).gk) rfl ?_
  rintro _ w5 ⟨o, c, pF, rfl, k5, fF, uF⟩
  refine BY rfl (AW rfl rfl (AW rfl rfl (AW rfl rfl ?_)))
  refine A2 (cs := c) rfl (fmlR.len fF) (by rfl) (fmlR.one fF) (fun w6 n6 => ?_)
  have k36 := (k4.trans k5).trans n6.keep
  refine AC (AH rfl (AC (AH rfl ?_)))
  repeat refine nx rfl ?_
  refine AA (AX rfl ?_)
  refine CT rfl rfl (fun hc => ?_) (fun hc => ?_)
  ·exact absurd hc hne
  refine AD rfl (AE rfl (AX rfl ?_))
  refine AE rfl (AO (long_ok w6 tx) rfl ?_)
  rintro _ w7 ⟨rfl, k7⟩
  have k37 := k36.trans k7
  cases hlg : longM tx with
  | true =>
   refine AE rfl (CF rfl (AE rfl (AD rfl (AM rfl (AM rfl (AM rfl (AM rfl (AM rfl (AM rfl (AM rfl (AM rfl (AM rfl (AM rfl (AM rfl (AM rfl (AM rfl (AM rfl (AE rfl (AS rfl (AD rfl (AS rfl (AD rfl ?_))))))))))))))))))))))
   repeat first | refine nx rfl ?_ | refine nf rfl ?_
   exact Ay () ⟨rfl, rfl, trivial⟩ (k03.trans k37)
  | false =>
  obtain rfl := hbk hlg pF
  have e1 : Out.errno (Except.ok f : Out Fml) = 0 := rfl
  refine AE rfl (CF rfl (AE rfl (AD rfl (AE rfl (AH rfl (AE rfl (Dh rfl rfl (by omega) (AE rfl (AD rfl ?_)))))))))
  refine AE rfl (AU rfl (b3.keep k37 (by simp)) hl3 ?_)
  refine AE rfl (AU rfl (n6.blk.keep k7 (by simp)) (fmlR.len fF) ?_)
  refine AE rfl (AO (cmp_ok w4 w5 w7 _ f f c (hf3.ext k37) fF uF (n6.keep.trans k7) (by omega)) rfl ?_)
  rintro _ w8 ⟨rfl, k8⟩
  have e3 := cmpF_self f
  refine AE rfl (Dh rfl rfl (by omega) (AE rfl (AS rfl (AD rfl (AE rfl (AD rfl ?_))))))
  refine AE rfl (AU rfl (n6.blk.keep (k7.trans k8) (by simp)) (fmlR.len fF) ?_)
  refine AE rfl (AO (prtF_ok w8 _ f (fit_any fmlR fF (n6.keep.trans (k7.trans k8))).2 (hG.ext (k03.trans (k37.trans k8))) (by omega)) rfl ?_)
  rintro _ w9 ⟨rfl, k9⟩
  rw [ht]
  refine AE rfl (AX rfl ?_)
  (refine AE rfl ?_; refine W_sneq rfl rfl (fun hc => ?_) (fun hc => ?_))
  ·exact absurd rfl hc
  refine AE rfl (AS rfl (AD rfl (AE rfl (AN rfl (AD rfl (AS rfl (AD rfl ?_)))))))
  repeat first | refine nx rfl ?_ | refine nf rfl ?_
  exact Ay () ⟨rfl, rfl, trivial⟩ (k03.trans ((k37.trans k8).trans k9))
 clear k1 k2 n3 k13 k03 fF uF pF
 rintro _ w1 f4 k1
 repeat refine nx rfl ?_
 refine AA (AX rfl ?_)
 refine AO (parseU_S w1 t (hG.ext k1).gk) rfl ?_
 rintro _ w2 ⟨o, c, pF, rfl, k2, fF, uF⟩
 refine BY rfl (AW rfl rfl (AW rfl rfl (AW rfl rfl ?_)))
 refine A2 (cs := c) rfl (spcR.len fF) (by rfl) (spcR.one fF) (fun w3 n3 => ?_)
 have k13 := k2.trans n3.keep
 have k03 := k1.trans k13
 refine AC (AH rfl (AC (AH rfl (AJ ?_))))
 repeat' first | refine AJ ?_ | refine Q_then ?_ | refine C_seq ?_
 refine Cp (α := Unit) (fun _ => [(0, AI t), (3, .bool true), (11, pt w2.heap.size), (74, .bool (okB o))]) (fun _ W => w3 = W) ?_ ?_
 ·rcases okB_e pF with ⟨he, hb⟩ | ⟨he, hb⟩
  ·rw [hb]
   refine AA (AH rfl (BQ rfl rfl (by omega) ?_))
   repeat refine nx rfl ?_
   exact Ay () ⟨rfl, rfl, rfl, rfl, trivial⟩ rfl
  ·rw [hb]
   refine AA (AH rfl (BA rfl rfl (by omega) ?_))
   repeat refine nx rfl ?_
   exact Ay () ⟨rfl, rfl, rfl, rfl, trivial⟩ rfl
 rintro _ _ f5 rfl
 repeat' first | refine AJ ?_ | refine Q_then ?_ | refine C_seq ?_
 refine Cp (α := Unit) (fun _ => [(0, AI t), (3, .bool true)]) (fun _ W => Ext w W) ?_ ?_
 ·cases o with
  | error e =>
   repeat first | refine nx rfl ?_ | refine nf rfl ?_
   exact Ay () ⟨rfl, rfl, trivial⟩ k03
  | ok s =>
  obtain ⟨hok, hsz⟩ := spc_parsed pF
  replace fF : spcR.fits (fresh w1) w2 c s := fF
  have ht := sT_eq hok
  have hbk := @back_S s hok
  have hemp := @spc_ne s
  have hs3 := fit_any spcR fF n3.keep
  have b3 := n3.blk
  have hl3 := spcR.len fF
  have hrl := szR_len s.reqs
  have hsl2 : s.sigs.length + szR s.reqs = szS s := rfl
  obtain ⟨sv, rv, rfl, ⟨sa, sc, LS, rfl, _⟩, ⟨ra, rc, LR, rfl, _⟩⟩ := id fF
  generalize w2.heap.size = p at b3
  clear n3 fF uF pF k13 k2 k1
  repeat refine nx rfl ?_
  refine AA (AU rfl b3 hl3 ?_)
  refine AO (prtS_ok w3 _ s hs3 (hG.ext k03) (by omega)) rfl ?_
  rintro _ w4 ⟨rfl, k4⟩
  rw [ht]
  generalize spcT s = tx at hbk ht hemp
  refine AC (AX rfl ?_)
  repeat refine nx rfl ?_
  refine AA (AX rfl ?_)
  refine AO (parseU_S w4 tx (hG.ext (k03.trans k4)).gk) rfl ?_
  rintro _ w5 ⟨o, c, pF, rfl, k5, fF, uF⟩
  refine BY rfl (AW rfl rfl (AW rfl rfl (AW rfl rfl ?_)))
  refine A2 (cs := c) rfl (spcR.len fF) (by rfl) (spcR.one fF) (fun w6 n6 => ?_)
  have k36 := (k4.trans k5).trans n6.keep
  refine AC (AH rfl (AC (AH rfl ?_)))
  repeat refine nx rfl ?_
  have b6 := b3.keep k36 (by simp)
  have c60 : w6.cell? ⟨p, 0 + 0, none⟩ = some (.slice sa s.sigs.length sc) := b6.cell rfl
  have c61 : w6.cell? ⟨p, 0 + 1, none⟩ = some (.slice ra s.reqs.length rc) := b6.cell rfl
  refine AA (AX rfl ?_)
  refine CT rfl rfl (fun hc => ?_) (fun hc => ?_)
  have hc0 : s.sigs.length = 0 ∧ s.reqs.length = 0 := by
   obtain ⟨q1, q2⟩ := hemp hc
   rw [q1, q2]; exact ⟨rfl, rfl⟩
  obtain ⟨hc1, hc2⟩ := hc0
  all_goals
   (refine AD rfl ?_ <;> (first | refine AM rfl ?_ | (refine AE rfl ?_; refine AB rfl ?_)) <;> (first | refine AM rfl ?_ | (refine AE rfl ?_; refine AG rfl (Blk.cell (by assumption) (by rfl)) ?_)) <;> (first | refine AM rfl ?_ | (refine AE rfl ?_; refine At rfl ?_)) <;> (first | refine AM rfl ?_ | (refine AE rfl ?_; refine AB rfl ?_)) <;> (first | refine AM rfl ?_ | (refine AE rfl ?_; refine AG rfl (Blk.cell (by assumption) (by rfl)) ?_)) <;> (first | refine AM rfl ?_ | (refine AE rfl ?_; refine At rfl ?_)) <;> (first | refine AM rfl ?_ | (refine AE rfl ?_; refine Bq rfl rfl (by first | exact Ar (by omega) (by omega) | exact A3 (by omega) (by omega) | exact Aq (by omega) (by omega)) ?_)) <;> (first | refine AM rfl ?_ | (refine AE rfl ?_; refine W_gtrF rfl rfl (by omega) ?_)) <;> ((first | refine AN rfl ?_ | refine AS rfl ?_); refine AD rfl ?_) <;> refine AD rfl (AE rfl (AX rfl ?_)))
   refine AE rfl (AO (long_ok w6 tx) rfl ?_)
   rintro _ w7 ⟨rfl, k7⟩
   have k37 := k36.trans k7
   cases hlg : longM tx with
   | true =>
    refine AE rfl (CF rfl (AE rfl (AD rfl (AM rfl (AM rfl (AM rfl (AM rfl (AM rfl (AM rfl (AM rfl (AM rfl (AM rfl (AM rfl (AM rfl (AM rfl (AM rfl (AM rfl (AE rfl (AS rfl (AD rfl (AS rfl (AD rfl ?_))))))))))))))))))))))
    repeat first | refine nx rfl ?_ | refine nf rfl ?_
    exact Ay () ⟨rfl, rfl, trivial⟩ (k03.trans k37)
   | false =>
   obtain rfl := hbk hlg pF
   have e1 : Out.errno (Except.ok s : Out Spc) = 0 := rfl
   refine AE rfl (CF rfl (AE rfl (AD rfl (AE rfl (AH rfl (AE rfl (Dh rfl rfl (by omega) (AE rfl (AD rfl ?_)))))))))
   refine AE rfl (AU rfl (b3.keep k37 (by simp)) hl3 ?_)
   refine AE rfl (AU rfl (n6.blk.keep k7 (by simp)) (spcR.len fF) ?_)
   refine AE rfl (AO (sameSpec_ok w7 _ _ s s (spcR.ext hs3 k37) (fit_any spcR fF (n6.keep.trans k7))) rfl ?_)
   rintro _ w8 ⟨b, rfl, hb, k8⟩
   obtain rfl := hb.2 rfl
   refine AE rfl (CF rfl (AE rfl (AS rfl (AD rfl (AE rfl (AD rfl ?_))))))
   refine AE rfl (AU rfl (n6.blk.keep (k7.trans k8) (by simp)) (spcR.len fF) ?_)
   refine AE rfl (AO (prtS_ok w8 _ s (fit_any spcR fF (n6.keep.trans (k7.trans k8))) (hG.ext (k03.trans (k37.trans k8))) (by omega)) rfl ?_)
   rintro _ w9 ⟨rfl, k9⟩
   rw [ht]
   refine AE rfl (AX rfl ?_)
   (refine AE rfl ?_; refine W_sneq rfl rfl (fun hd => ?_) (fun hd => ?_))
   ·exact absurd rfl hd
   refine AE rfl (AS rfl (AD rfl (AE rfl (AN rfl (AD rfl (AS rfl (AD rfl ?_)))))))
   repeat first | refine nx rfl ?_ | refine nf rfl ?_
   exact Ay () ⟨rfl, rfl, trivial⟩ (k03.trans ((k37.trans k8).trans k9))
 clear k1 k2 n3 k13 k03 fF uF pF
 rintro _ w1 f6 k1
 repeat refine nx rfl ?_
 refine AA (AX rfl ?_)
 refine AO (parseU_D w1 t (hG.ext k1).gk) rfl ?_
 rintro _ w2 ⟨o, c, pF, rfl, k2, fF, uF⟩
 refine BY rfl (AW rfl rfl (AW rfl rfl (AW rfl rfl ?_)))
 refine A2 (cs := c) rfl (edtR.len fF) (by rfl) (edtR.one fF) (fun w3 n3 => ?_)
 have k13 := k2.trans n3.keep
 have k03 := k1.trans k13
 refine AC (AH rfl (AC (AH rfl ?_)))
 repeat refine nx rfl ?_
 cases o with
 | error e =>
  have hne := pF.ne
  have he : Out.errno (Except.error e : Out Edt) = e.1 := rfl
  refine AA (AH rfl (W_neqT rfl rfl (by omega) ?_))
  repeat refine nx rfl ?_
  refine AA (AD rfl (AC (AD rfl ?_)))
  repeat refine nx rfl ?_
  exact AQ rfl ⟨rfl, k03⟩
 | ok e =>
 have he : Out.errno (Except.ok e : Out Edt) = 0 := rfl
 obtain ⟨hok, hsz⟩ := edt_parsed pF
 have ht := dT_eq hok
 have hne := edt_ne e
 have hbk := @back_D e hok
 have he3 := fit_any edtR fF n3.keep
 have b3 := n3.blk
 have hl3 := edtR.len fF
 refine AA (AH rfl (Dh rfl rfl (by omega) ?_))
 repeat first | refine nx rfl ?_ | refine nf rfl ?_
 generalize w2.heap.size = p at b3
 clear n3 fF uF pF k13 k2 k1
 refine AA (AU rfl b3 hl3 ?_)
 refine AO (prtD_ok w3 _ e he3 (hG.ext k03) (by omega)) rfl ?_
 rintro _ w4 ⟨rfl, k4⟩
 rw [ht]
 generalize edtT e = tx at hne hbk ht
 refine AC (AX rfl ?_)
 repeat refine nx rfl ?_
 refine AA (AX rfl ?_)
 refine AO (parseU_D w4 tx (hG.ext (k03.trans k4)).gk) rfl ?_
 rintro _ w5 ⟨o, c, pF, rfl, k5, fF, uF⟩
 refine BY rfl (AW rfl rfl (AW rfl rfl (AW rfl rfl ?_)))
 refine A2 (cs := c) rfl (edtR.len fF) (by rfl) (edtR.one fF) (fun w6 n6 => ?_)
 have k36 := (k4.trans k5).trans n6.keep
 refine AC (AH rfl (AC (AH rfl ?_)))
 repeat refine nx rfl ?_
 refine AA (AD rfl (AD rfl (AE rfl (AX rfl ?_))))
 (refine AE rfl ?_; refine W_sneq rfl rfl (fun hc => ?_) (fun hc => ?_))
 rotate_left
 ·exact absurd hc hne
 refine AN rfl (AD rfl (AD rfl (AE rfl (AX rfl ?_))))
 refine AE rfl (AO (long_ok w6 tx) rfl ?_)
 rintro _ w7 ⟨rfl, k7⟩
 have k37 := k36.trans k7
 cases hlg : longM tx with
 | true =>
  refine AE rfl (AD rfl (AM rfl (AM rfl (AM rfl (AM rfl (AM rfl (AM rfl (AM rfl (AM rfl (AM rfl (AM rfl (AM rfl (AM rfl (AM rfl (AE rfl (AN rfl (AD rfl (AN rfl (AD rfl (AC (AD rfl ?_)))))))))))))))))))))
  repeat refine nx rfl ?_
  exact AQ rfl ⟨rfl, k03.trans k37⟩
 | false =>
 obtain rfl := hbk hlg pF
 refine AE rfl (AD rfl (AE rfl (AH rfl (AE rfl (BQ rfl rfl (by omega) (AE rfl (AD rfl ?_)))))))
 refine AE rfl (AU rfl (b3.keep k37 (by simp)) hl3 ?_)
 refine AE rfl (AU rfl (n6.blk.keep k7 (by simp)) (edtR.len fF) ?_)
 refine AE rfl (AO (sameEdit_ok w7 _ _ e e (edtR.ext he3 k37) (fit_any edtR fF (n6.keep.trans k7))) rfl ?_)
 rintro _ w8 ⟨b, rfl, hb, k8⟩
 obtain rfl := hb.2 rfl
 refine AE rfl (AN rfl (AD rfl (AE rfl (AD rfl ?_))))
 refine AE rfl (AU rfl (n6.blk.keep (k7.trans k8) (by simp)) (edtR.len fF) ?_)
 refine AE rfl (AO (prtD_ok w8 _ e (fit_any edtR fF (n6.keep.trans (k7.trans k8))) (hG.ext (k03.trans (k37.trans k8))) (by omega)) rfl ?_)
 rintro _ w9 ⟨rfl, k9⟩
 rw [ht]
 refine AE rfl (AX rfl ?_)
 (refine AE rfl ?_; refine CT rfl rfl (fun hd => ?_) (fun hd => ?_))
 rotate_left
 ·exact absurd rfl hd
 refine AE rfl (AN rfl (AD rfl (AE rfl (AS rfl (AD rfl (AN rfl (AD rfl (AC (AD rfl ?_)))))))))
 repeat refine nx rfl ?_
 exact AQ rfl ⟨rfl, k03.trans ((k37.trans k8).trans k9)⟩
end Go.Proofs.YtfcgdbmoncnibaaGreatDoor
namespace Go.Proofs.YtfcgdbmoncnibaaGreatDoor
open Go.ChangeShapes Go.WideShapes Go.ChangeAt Go.RowKit
open Go.ChangeMaps (open_string)
section
variable {H : Type} {enc : TypeId × Value → H} {P : Program} {W W' : World}
theorem sameAt_ext (he : Ext W W') {p : MemPlace} (hp : p.block < W.heap.size) : W.sameAt W' p := by
 cases p with
 | cell b off => exact World.cell?_of_block (w := W) (a := ⟨b, off, none⟩) (he.block b hp (by simp))
 | map b => exact he.block b hp (by simp)
theorem trodAll_ext (K : Kids P (· < P.types.size)) (hz : ∀ t e, t < P.types.size → P.underlying t = some (.slice e) → 0 < P.cellsOf e) (he : Ext W W') {sp : Nat → Bool} :
  ∀ {ts : List TypeId} {vs : List Value} {ds : List (DataW H)} {ps : List MemPlace}, (∀ t ∈ ts, t < P.types.size) → DataW.TrodAll enc P W 0 (fun _ => true) true ts vs ds ps →
   (∀ p ∈ ps, p.block < W.heap.size) → (∀ p ∈ ps, sp p.block = true) → DataW.TrodAll enc P W' 0 sp true ts vs ds ps
 | [], [], [], _, _, h, _, _ => h
 | _ :: _, _ :: _, _ :: _, _, hT, ⟨p, q, ⟨n, h1⟩, h2, e⟩, hl, hs => by
  subst e
  refine ⟨p, q, ⟨n, DataW.trod_stays K (fun ht hu => hz _ _ ht hu) (fun h => by cases h) (hT _ (by simp)) h1 (fun x hx => sameAt_ext he (hl x (List.mem_append_left _ hx))) fun x hx => hs x (List.mem_append_left _ hx)⟩, ?_, rfl⟩
  exact trodAll_ext K hz he (fun t ht => hT t (List.mem_cons_of_mem _ ht)) h2 (fun x hx => hl x (List.mem_append_right _ hx)) fun x hx => hs x (List.mem_append_right _ hx)
theorem keptBut_ext (he : Ext W W') (may : MemPlace → Prop) : W.keptBut W' may := by
 refine ⟨he.os, he.output, fun i hi => ?_⟩
 rw [he.block i hi (by simp)]
 exact (World.keptBut_refl W may).2.2 i hi
theorem post_of_ext (K : Kids P (· < P.types.size)) (hz : ∀ t e, t < P.types.size → P.underlying t = some (.slice e) → 0 < P.cellsOf e) {f : Func} {s : ChangeSpec} {apart fresh handsOn : Bool} {args : Array Value} {v : Value} {ds gs : List (DataW H)} {before : List MemPlace} {tb : TypeId}
  (hts : ∀ t ∈ f.params.toList, t < P.types.size) (hs : s.vars = []) (hW : DataW.Whole enc P f.params.toList s.vars apart W args.toList ds gs before)
  (hfn : s.fn H (ds ++ gs) = { results := [.lit (.bool true)], args := ds }) (hrt : f.resultTypes = #[tb]) (htb : P.underlying tb = some .bool) (hv : v = .bool true) (he : Ext W W') :
  s.post enc P f apart fresh handsOn false W args v W' := by
 subst hv
 have hlt : ∀ p ∈ before, p.block < W.heap.size := hW.lt
 obtain ⟨p, q, hA, hV, rfl, hf, hn⟩ := id hW
 have hq : gs = [] ∧ q = [] := by
  rw [hs] at hV
  cases gs with
  | nil => exact ⟨rfl, hV⟩
  | cons _ _ => exact hV.elim
 obtain ⟨rfl, rfl⟩ := hq
 refine ⟨ds, [], _, [], p, [], hW, ?_, ?_, ?_, keptBut_ext he _, (fun h => by cases h)⟩
 ·rw [hfn, hrt]
  exact trodAll_cons_mk (shut_bool htb true) trodAll_mk0
 ·rw [hfn]
  exact trodAll_ext K hz he hts hA (fun x hx => hlt x (List.mem_append_left _ hx)) fun x hx => by simpa using hlt x (List.mem_append_left _ hx)
 ·rw [hfn, hs]; exact rfl
end
theorem kids : Kids Tryz.prog (· < Tryz.prog.types.size) := kids_rows (by kernel_rfl) (by kernel_rfl)
theorem full : ∀ t e, t < Tryz.prog.types.size → Tryz.prog.underlying t = some (.slice e) → 0 < Tryz.prog.cellsOf e := slices_full_of Tryz.prog (by kernel_rfl)
theorem own : ownKnob Tryz.prog.godebug = none := by kernel_rfl
end Go.Proofs.YtfcgdbmoncnibaaGreatDoor
namespace Go.Proofs.YtfcgdbmoncnibaaGreatDoor
open Go.ChangeShapes Go.WideShapes Go.ChangeAt Go.RowKit
set_option linter.unusedVariables false
end Go.Proofs.YtfcgdbmoncnibaaGreatDoor
namespace Go.Proofs.YtfcgdbmoncnibaaGreatDoor
open Go.ChangeShapes Go.WideShapes Go.ChangeAt Go.RowKit
set_option linter.unusedVariables false
section
variable {H : Type} {enc : TypeId × Value → H} {P : Program} {w : World} {base : Nat} {sp : Nat → Bool} {held : Bool}
theorem trod_arr {fuel : Nat} {t e : TypeId} {n c : Nat} {cs : List Value} {ds : List (DataW H)} {p : List MemPlace} (ht : P.underlying t = some (.array n e)) (hce : P.cellsOf e = c) (hct : P.cellsOf t = n * c)
  (h : DataW.trod enc P w base sp held fuel t cs = some (.agg ds, p)) : cs.length = n * c ∧ ∃ m, ∀ i, i < n → ∃ d q, ds[i]? = some d ∧ DataW.trod enc P w base sp held m e ((cs.drop (i * c)).take c) = some (d, q) := by
 cases fuel with
 | zero => simp [DataW.trod] at h
 | succ fuel =>
  simp only [DataW.trod, ht, hce, hct] at h
  split at h
  ·rename_i hl
   obtain ⟨xs, hm, hx⟩ := Option.map_eq_some_iff.1 h
   have hxs : xs.map (·.1) = ds := by
    have := congrArg Prod.fst hx
    simpa using this
   refine ⟨hl, fuel, fun i hi => ?_⟩
   obtain ⟨b, hb, hf⟩ := Lib.mapM_at hm i i (by simp [hi])
   exact ⟨b.1, b.2, by rw [← hxs, List.getElem?_map, hb]; rfl, hf⟩
  ·cases h
end
def spanD (p : Nat × Nat × Nat) : DataW Unit := .agg [.lit (.int .u8 (p.1 : Int)), .lit (.int .u8 (p.2.1 : Int)), .lit (.int .i64 (p.2.2 : Int))]
theorem Db {cs out : List Value} {c i r : Nat} {v : Value} (h : (cs.drop (i * c)).take c = out) (hv : out[r]? = some v) : cs[i * c + r]? = some v := by
 subst h
 rw [List.getElem?_take] at hv
 split at hv
 ·rwa [List.getElem?_drop] at hv
 ·cases hv
theorem len3 {cs : List Value} (h : cs.length = 3) : ∃ c0 c1 c2, cs = [c0, c1, c2] := by
 match cs, h with
 | [a, b, c], _ => exact ⟨a, b, c, rfl⟩
theorem span_piece {w : World} {fuel : Nat} {cs : List Value} {p : Nat × Nat × Nat} {q : List MemPlace} (h : DataW.trod (fun _ => ()) Tryz.prog w 0 (fun _ => true) false fuel 167 cs = some (spanD p, q)) : cs = spanC1 p := by
 have hc : Tryz.prog.cellsOf 167 = 3 := by kernel_rfl
 have h8 : Tryz.prog.cellsOf 5 = 1 := by kernel_rfl
 have hi : Tryz.prog.cellsOf 3 = 1 := by kernel_rfl
 obtain ⟨xs, n, _, hx, hcl, hxl, hf⟩ := DataW.trod_struct Tryz.underlying167 h
 rw [hc] at hcl
 obtain ⟨c0, c1, c2, rfl⟩ := len3 hcl
 have f0 : DataW.trod (fun _ => ()) Tryz.prog w 0 (fun _ => true) false n 5 ((List.drop 0 [c0, c1, c2]).take (Tryz.prog.cellsOf 5)) = xs[0]? := hf 0 _ rfl
 have f1 : DataW.trod (fun _ => ()) Tryz.prog w 0 (fun _ => true) false n 5 ((List.drop 1 [c0, c1, c2]).take (Tryz.prog.cellsOf 5)) = xs[1]? := hf 1 _ rfl
 have f2 : DataW.trod (fun _ => ()) Tryz.prog w 0 (fun _ => true) false n 3 ((List.drop 2 [c0, c1, c2]).take (Tryz.prog.cellsOf 3)) = xs[2]? := hf 2 _ rfl
 have hx3 : xs.length = 3 := hxl
 rw [h8] at f0 f1
 rw [hi] at f2
 have g0 : xs[0]? = some xs[0] := List.getElem?_eq_getElem (by omega)
 have g1 : xs[1]? = some xs[1] := List.getElem?_eq_getElem (by omega)
 have g2 : xs[2]? = some xs[2] := List.getElem?_eq_getElem (by omega)
 obtain ⟨a, ha, ha', _⟩ := DataW.trod_int Tryz.underlying5 (f0.trans g0)
 obtain ⟨b, hb, hb', _⟩ := DataW.trod_int Tryz.underlying5 (f1.trans g1)
 obtain ⟨c, hc2, hc', _⟩ := DataW.trod_int Tryz.underlying3 (f2.trans g2)
 have hd : xs.map (·.1) = [.lit (.int .u8 (p.1 : Int)), .lit (.int .u8 (p.2.1 : Int)), .lit (.int .i64 (p.2.2 : Int))] := by
  have := congrArg Prod.fst hx
  simpa [spanD] using this.symm
 have e0 := congrArg (·[0]?) hd
 have e1 := congrArg (·[1]?) hd
 have e2 := congrArg (·[2]?) hd
 simp [g0, ha'] at e0
 simp [g1, hb'] at e1
 simp [g2, hc'] at e2
 simp at ha hb hc2
 rw [ha, hb, hc2, e0, e1, e2]
 try rfl
theorem sym_piece {w : World} {fuel : Nat} {cs : List Value} {l : List UInt8} {q : List MemPlace} (h : DataW.trod (fun _ => ()) Tryz.prog w 0 (fun _ => true) false fuel 9 cs = some (.lit (.string l), q)) : cs = [AI l] := by
 obtain ⟨s, rfl, hx, _⟩ := DataW.trod_string Tryz.underlying9 h
 have := congrArg Prod.fst hx
 simp at this
 rw [this]
theorem int_at {w : World} {fuel i : Nat} {cs : List Value} {xs : List (DataW Unit × List MemPlace)} {ds : List (DataW Unit)} {z : Int} (hf : DataW.trod (fun _ => ()) Tryz.prog w 0 (fun _ => true) false fuel 3 ((cs.drop i).take 1) = xs[i]?) (hd : xs.map (·.1) = ds) (hi : ds[i]? = some (.lit (.int .i64 z))) : cs[i]? = some (.int .i64 z) := by
 rw [← hd, List.getElem?_map] at hi
 obtain ⟨x, hx, hz⟩ := Option.map_eq_some_iff.1 hi
 obtain ⟨n, hn, rfl, _⟩ := DataW.trod_int Tryz.underlying3 (hf.trans hx)
 simp at hz
 subst hz
 have := congrArg (·[0]?) hn
 simpa [List.getElem?_take, List.getElem?_drop] using this
theorem bool_at {w : World} {fuel i : Nat} {cs : List Value} {xs : List (DataW Unit × List MemPlace)} {ds : List (DataW Unit)} {z : Bool} (hf : DataW.trod (fun _ => ()) Tryz.prog w 0 (fun _ => true) false fuel 4 ((cs.drop i).take 1) = xs[i]?) (hd : xs.map (·.1) = ds) (hi : ds[i]? = some (.lit (.bool z))) : cs[i]? = some (.bool z) := by
 rw [← hd, List.getElem?_map] at hi
 obtain ⟨x, hx, hz⟩ := Option.map_eq_some_iff.1 hi
 obtain ⟨n, hn, rfl⟩ := DataW.trod_bool Tryz.underlying4 (hf.trans hx)
 simp at hz
 subst hz
 have := congrArg (·[0]?) hn
 simpa [List.getElem?_take, List.getElem?_drop] using this
def formD (x : Form) : DataW Unit := .agg [.lit (.int .i64 x.least), .lit (.int .i64 x.most), .lit (.int .i64 x.val), .lit (.int .i64 x.bound), .lit (.bool x.named), .lit (.bool x.past), .lit (.bool x.future), .lit (.bool x.loose)]
theorem form_piece {w : World} {fuel : Nat} {cs : List Value} {p : Form} {q : List MemPlace} (h : DataW.trod (fun _ => ()) Tryz.prog w 0 (fun _ => true) false fuel 175 cs = some (formD p, q)) : cs = CP p := by
 have hc : Tryz.prog.cellsOf 175 = 8 := by kernel_rfl
 have h8 : Tryz.prog.cellsOf 4 = 1 := by kernel_rfl
 have hi : Tryz.prog.cellsOf 3 = 1 := by kernel_rfl
 obtain ⟨xs, n, _, hx, hcl, hxl, hf⟩ := DataW.trod_struct Tryz.underlying175 h
 rw [hc] at hcl
 have hd : xs.map (·.1) = [.lit (.int .i64 p.least), .lit (.int .i64 p.most), .lit (.int .i64 p.val), .lit (.int .i64 p.bound), .lit (.bool p.named), .lit (.bool p.past), .lit (.bool p.future), .lit (.bool p.loose)] := by
  have := congrArg Prod.fst hx
  simpa [formD] using this.symm
 have f0 : DataW.trod (fun _ => ()) Tryz.prog w 0 (fun _ => true) false n 3 ((cs.drop 0).take (Tryz.prog.cellsOf 3)) = xs[0]? := hf 0 _ rfl
 have f1 : DataW.trod (fun _ => ()) Tryz.prog w 0 (fun _ => true) false n 3 ((cs.drop 1).take (Tryz.prog.cellsOf 3)) = xs[1]? := hf 1 _ rfl
 have f2 : DataW.trod (fun _ => ()) Tryz.prog w 0 (fun _ => true) false n 3 ((cs.drop 2).take (Tryz.prog.cellsOf 3)) = xs[2]? := hf 2 _ rfl
 have f3 : DataW.trod (fun _ => ()) Tryz.prog w 0 (fun _ => true) false n 3 ((cs.drop 3).take (Tryz.prog.cellsOf 3)) = xs[3]? := hf 3 _ rfl
 have f4 : DataW.trod (fun _ => ()) Tryz.prog w 0 (fun _ => true) false n 4 ((cs.drop 4).take (Tryz.prog.cellsOf 4)) = xs[4]? := hf 4 _ rfl
 have f5 : DataW.trod (fun _ => ()) Tryz.prog w 0 (fun _ => true) false n 4 ((cs.drop 5).take (Tryz.prog.cellsOf 4)) = xs[5]? := hf 5 _ rfl
 have f6 : DataW.trod (fun _ => ()) Tryz.prog w 0 (fun _ => true) false n 4 ((cs.drop 6).take (Tryz.prog.cellsOf 4)) = xs[6]? := hf 6 _ rfl
 have f7 : DataW.trod (fun _ => ()) Tryz.prog w 0 (fun _ => true) false n 4 ((cs.drop 7).take (Tryz.prog.cellsOf 4)) = xs[7]? := hf 7 _ rfl
 rw [hi] at f0 f1 f2 f3
 rw [h8] at f4 f5 f6 f7
 apply List.ext_getElem?
 intro i
 match i with
 | 0 => exact int_at f0 hd rfl
 | 1 => exact int_at f1 hd rfl
 | 2 => exact int_at f2 hd rfl
 | 3 => exact int_at f3 hd rfl
 | 4 => exact bool_at f4 hd rfl
 | 5 => exact bool_at f5 hd rfl
 | 6 => exact bool_at f6 hd rfl
 | 7 => exact bool_at f7 hd rfl
 | i + 8 => rw [List.getElem?_eq_none (by omega), List.getElem?_eq_none (by simp [CP])]
def laidL : List (String × DataW Unit) := [("math/bits.deBruijn32tab", Rows.laid_math_bits_deBruijn32tab), ("math/bits.deBruijn64tab", Rows.laid_math_bits_deBruijn64tab), ("internal/strconv.uint64pow10", Rows.laid_internal_strconv_uint64pow10), ("strconv.ErrRange", Rows.laid_strconv_ErrRange), ("strconv.ErrSyntax", Rows.laid_strconv_ErrSyntax), ("foresight/signal.keys", Rows.laid_foresight_signal_keys), ("foresight/formula.forms", Rows.laid_foresight_formula_forms), ("foresight/lexer.spans", Rows.laid_foresight_lexer_spans), ("foresight/lexer.symbols", Rows.laid_foresight_lexer_symbols)]
theorem gp_of_laid {W : World} (h : laidMetH Tryz.prog laidL W) : GP W ∧ GF W := by
 have h' : laidMet Tryz.prog laidL W := h
 obtain ⟨ps, ⟨g1, t1, cs1, fu1, p1, q1, hg1, ht1, hv1, hd1, ⟨g2, t2, cs2, fu2, p2, q2, hg2, ht2, hv2, hd2, ⟨g3, t3, cs3, fu3, p3, q3, hg3, ht3, hv3, hd3, ⟨g4, t4, cs4, fu4, p4, q4, hg4, ht4, hv4, hd4, ⟨g5, t5, cs5, fu5, p5, q5, hg5, ht5, hv5, hd5, ⟨g6, t6, cs6, fu6, p6, q6, hg6, ht6, hv6, hd6, ⟨g9, t9, cs9, fu9, p9, q9, hg9, ht9, hv9, hd9, ⟨g7, t7, cs7, fu7, p7, q7, hg7, ht7, hv7, hd7, ⟨g8, t8, cs8, fu8, p8, q8, hg8, ht8, hv8, hd8, _, _⟩, _⟩, _⟩, _⟩, _⟩, _⟩, _⟩, _⟩, _⟩, _⟩ := h'
 have n2 : Tryz.prog.globalNamed "math/bits.deBruijn64tab" = some 9 := by kernel_rfl
 have n6 : Tryz.prog.globalNamed "foresight/signal.keys" = some 3 := by kernel_rfl
 have n7 : Tryz.prog.globalNamed "foresight/lexer.spans" = some 0 := by kernel_rfl
 have n8 : Tryz.prog.globalNamed "foresight/lexer.symbols" = some 1 := by kernel_rfl
 have n9 : Tryz.prog.globalNamed "foresight/formula.forms" = some 2 := by kernel_rfl
 have n3 : Tryz.prog.globalNamed "internal/strconv.uint64pow10" = some 7 := by kernel_rfl
 have y9 : (Tryz.prog.globals[2]?).map (·.type) = some 200 := by kernel_rfl
 have y3 : (Tryz.prog.globals[7]?).map (·.type) = some 229 := by kernel_rfl
 have y6 : (Tryz.prog.globals[3]?).map (·.type) = some 201 := by kernel_rfl
 have y7 : (Tryz.prog.globals[0]?).map (·.type) = some 168 := by kernel_rfl
 have y8 : (Tryz.prog.globals[1]?).map (·.type) = some 198 := by kernel_rfl
 obtain rfl := Option.some.inj (n9.symm.trans hg9)
 obtain rfl := Option.some.inj (n3.symm.trans hg3)
 obtain rfl := Option.some.inj (y9.symm.trans ht9)
 obtain rfl := Option.some.inj (y3.symm.trans ht3)
 obtain rfl := Option.some.inj (n6.symm.trans hg6)
 obtain rfl := Option.some.inj (n7.symm.trans hg7)
 obtain rfl := Option.some.inj (n8.symm.trans hg8)
 obtain rfl := Option.some.inj (y6.symm.trans ht6)
 obtain rfl := Option.some.inj (y7.symm.trans ht7)
 obtain rfl := Option.some.inj (y8.symm.trans ht8)
 refine ⟨⟨⟨⟨?_, ?_, ?_⟩, ?_⟩, ?_⟩, ?_⟩
 ·obtain ⟨hl, m, hp⟩ := trod_arr (ds := spansL.map spanD) Tryz.underlying168 (by kernel_rfl : Tryz.prog.cellsOf 167 = 3) (by kernel_rfl) hd7
  intro j u hu
  have hj : j < 48 := (List.getElem?_eq_some_iff.1 hu).1
  obtain ⟨p, hsp⟩ : ∃ p, spansL[j / 3]? = some p := ⟨_, List.getElem?_eq_getElem (by show j / 3 < 16; omega)⟩
  obtain ⟨d, q, hd, ht⟩ := hp (j / 3) (by omega)
  rw [List.getElem?_map, hsp] at hd
  cases hd
  have e1 := span_piece ht
  have e2 := spanC_at spansL (j / 3) p hsp
  obtain ⟨v, hr⟩ : ∃ v, (spanC1 p)[j % 3]? = some v := ⟨_, List.getElem?_eq_getElem (by show j % 3 < 3; omega)⟩
  have c1 := Db e1 hr
  have c2 := Db e2 hr
  rw [show j / 3 * 3 + j % 3 = j by omega] at c1 c2
  have hu' : (spansL.flatMap spanC1)[j]? = some u := hu
  rw [c2] at hu'
  rw [Nat.zero_add, World.var?_cell n7 hv7 j]
  rw [← hu', ← c1]
  simp
 ·obtain ⟨hl, m, hp⟩ := trod_arr (ds := symsL.map fun l => .lit (.string l)) Tryz.underlying198 (by kernel_rfl : Tryz.prog.cellsOf 9 = 1) (by kernel_rfl) hd8
  intro j u hu
  have hj : j < 15 := (List.getElem?_eq_some_iff.1 hu).1
  obtain ⟨p, hsp⟩ : ∃ p, symsL[j]? = some p := ⟨_, List.getElem?_eq_getElem hj⟩
  obtain ⟨d, q, hd, ht⟩ := hp j hj
  rw [List.getElem?_map, hsp] at hd
  cases hd
  have c1 := Db (r := 0) (sym_piece ht) rfl
  have hu' : (symsL.map AI)[j]? = some u := hu
  rw [List.getElem?_map, hsp] at hu'
  cases hu'
  rw [Nat.zero_add, World.var?_cell n8 hv8 j]
  simpa using c1
 ·have hv := hv2
  simp only [World.var?, n2, Option.bind_some] at hv
  split at hv
  ·rename_i e
   have := (Array.getElem?_eq_some_iff.1 e).1
   omega
  ·cases hv
 ·obtain ⟨hl, m, hp⟩ := trod_arr (ds := keysL.map fun l => .lit (.string l)) Tryz.underlying201 (by kernel_rfl : Tryz.prog.cellsOf 9 = 1) (by kernel_rfl) hd6
  intro j u hu
  have hj : j < 10 := (List.getElem?_eq_some_iff.1 hu).1
  obtain ⟨p, hsp⟩ : ∃ p, keysL[j]? = some p := ⟨_, List.getElem?_eq_getElem hj⟩
  obtain ⟨d, q, hd, ht⟩ := hp j hj
  rw [List.getElem?_map, hsp] at hd
  cases hd
  have c1 := Db (r := 0) (sym_piece ht) rfl
  have hu' : (keysL.map AI)[j]? = some u := hu
  rw [List.getElem?_map, hsp] at hu'
  cases hu'
  rw [Nat.zero_add, World.var?_cell n6 hv6 j]
  simpa using c1
 ·have hc := Lib.cells_of_tab (zs := Lib.pow10Tab) (k := .u64) Tryz.underlying229 Tryz.underlying217 (by kernel_rfl) (by kernel_rfl) hd3
  unfold Lib.TabIs
  rw [hv3, ← hc]
 ·obtain ⟨hl, m, hp⟩ := trod_arr (ds := formsL.map formD) Tryz.underlying200 (by kernel_rfl : Tryz.prog.cellsOf 175 = 8) (by kernel_rfl) hd9
  intro j u hu
  have hj : j < 160 := (List.getElem?_eq_some_iff.1 hu).1
  obtain ⟨p, hsp⟩ : ∃ p, formsL[j / 8]? = some p := ⟨_, List.getElem?_eq_getElem (by show j / 8 < 20; omega)⟩
  obtain ⟨d, q, hd, ht⟩ := hp (j / 8) (by omega)
  rw [List.getElem?_map, hsp] at hd
  cases hd
  have e1 := form_piece ht
  obtain ⟨v, hr⟩ : ∃ v, (CP p)[j % 8]? = some v := ⟨_, List.getElem?_eq_getElem (by show j % 8 < 8; omega)⟩
  have c1 := Db e1 hr
  have c2 := formC_at formsL (j / 8) (j % 8) p v hsp hr
  rw [show j / 8 * 8 + j % 8 = j by omega] at c1 c2
  have hu' : (formsL.flatMap CP)[j]? = some u := hu
  rw [c2] at hu'
  rw [Nat.zero_add, World.var?_cell n9 hv9 j]
  rw [← hu', ← c1]
  simp
set_option maxRecDepth 100000 in
theorem law_liftedL {os : Os} (started : os.Started) {k : FuncId} {fn : Func} {s : ChangeSpec} {conds : List PathCond} {fresh : Bool} {H : Type} {enc : TypeId × Value → H} (F : Stop.Interp) (noInit : Tryz.prog.inits.idxOf? k = none) (hfn : Tryz.prog.funcs[k]? = some fn)
  (witness : ∃ (w : World) (tape : Tape) (i : Input), w.os = os ∧ (w.forCall tape i).Shaped Tryz.prog ∧ i.vars = [] ∧ Input.okWide Tryz.prog (w.forCall tape i) .any w.heap.size k i ∧
   (OpenSpec.ofChange s).preRow enc Tryz.prog fn conds false laidL (w.forCall tape i).memory i.args ∧ ({} : Assume).holds Tryz.prog (lone (Frame.enter Tryz.prog k i.args .normal) [] (w.forCall tape i)))
  (hs : s.vars = []) (hts : (fn.params.toList.all fun t => decide (t < Tryz.prog.types.size)) = true) (hrt : fn.resultTypes = #[4])
  (hspec : ∀ ds : List (DataW H), ds.length = fn.params.toList.length → s.fn H ds = { results := [.lit (.bool true)], args := ds })
  (law : ∀ (W : World) (base : Nat) (args : List Value) (ds : List (DataW H)) (p : List MemPlace), (∀ (j : Nat) t v, fn.params.toList[j]? = some t → args[j]? = some v → Value.okWide Tryz.prog W .any base t v) →
   DataW.TrodAll enc Tryz.prog W 0 (fun _ => true) true fn.params.toList args ds p → GP W ∧ GF W → Fn Tryz.prog k args W fun v w' => v = .bool true ∧ Ext W w') :
  ReturnsInHanded {} Tryz.checked os k .any ((OpenSpec.ofChange s).preRow enc Tryz.prog fn conds false laidL) (((OpenSpec.ofChange s).at F).post enc Tryz.prog fn false fresh false false) := by
 refine returnsInHanded_of_row (C := Tryz.checked) (s := OpenSpec.ofChange s) own started noInit hfn witness ?_
 intro W base args ds gs before hval hW _ _ _ hL _ _
 have hW' : DataW.Whole enc Tryz.prog fn.params.toList s.vars false W args.toList ds gs before := hW
 obtain ⟨p, q, hA, hV, rfl, hf, hn⟩ := hW
 have hg : gs = [] := by
  have hV' : DataW.TrodVars enc Tryz.prog W (fun _ => true) s.vars gs q := hV
  rw [hs] at hV'
  cases gs with
  | nil => rfl
  | cons _ _ => exact hV'.elim
 subst hg
 have hlen : ∀ {ts : List TypeId} {vs : List Value} {ds : List (DataW H)} {ps : List MemPlace}, DataW.TrodAll enc Tryz.prog W 0 (fun _ => true) true ts vs ds ps → ds.length = ts.length := by
  intro ts
  induction ts with
  | nil => intro vs ds ps h; obtain ⟨rfl, rfl, rfl⟩ := trodAll_nil h; rfl
  | cons t ts ih => intro vs ds ps h; obtain ⟨v, vs1, d, ds1, a, b, rfl, rfl, rfl, h1, h2⟩ := trodAll_cons h; simp [ih h2]
 refine Calls.mono (law W base args.toList ds p (fun j t v h1 h2 => hval j t v (Array.getElem?_toList.symm.trans h1) (Array.getElem?_toList.symm.trans h2)) hA (gp_of_laid hL)) fun e W' he => ?_
 cases e with
 | returned v =>
  refine ⟨v, rfl, post_of_ext kids full (fun t ht => of_decide_eq_true (List.all_eq_true.1 hts t ht)) hs hW' ?_ hrt Tryz.underlying4 he.1 he.2⟩
  rw [List.append_nil]; exact hspec ds (hlen hA)
 | panicked ch => exact he.elim
 | outgrown => exact he.elim
def layC (cs : List Value) : Obj → Obj
 | .cells _ t frozen => .cells cs.toArray t frozen
 | o => o
def tabC : DataW Unit → List Value
 | .agg l => l.map fun d => match d with | .lit (.int k z) => .int k z | _ => .bool false
 | _ => []
noncomputable def laidWorld (os : Os) : World :=
 let w := World.holding Tryz.prog os ⟨#[.cells #[AI [118, 97, 108, 117, 101, 32, 111, 117, 116, 32, 111, 102, 32, 114, 97, 110, 103, 101]] 236, .cells #[AI [105, 110, 118, 97, 108, 105, 100, 32, 115, 121, 110, 116, 97, 120]] 236], #[], []⟩
 { w with heap := (((((((((w.heap.modify 2 (layC formC)).modify 0 (layC spanC)).modify 1 (layC symC)).modify 3 (layC keyC)).modify 6 (layC [.iface 234 (.pointer (some ⟨15, 0, none⟩))])).modify 5 (layC [.iface 234 (.pointer (some ⟨16, 0, none⟩))])).modify 7 (layC (tabC Rows.laid_internal_strconv_uint64pow10))).modify 8 (layC (tabC Rows.laid_math_bits_deBruijn32tab))).modify 9 (layC (tabC Rows.laid_math_bits_deBruijn64tab))) }
end Go.Proofs.YtfcgdbmoncnibaaGreatDoor
namespace Go.Proofs.YtfcgdbmoncnibaaGreatDoor
open Go.ChangeShapes Go.WideShapes Go.ChangeAt Go.RowKit
open Go.ChangeMaps (open_string)
set_option linter.unusedVariables false
set_option maxRecDepth 100000 in
theorem PrinterCanonical_open {H : Type} {enc : TypeId × Value → H} (W : World) (base : Nat) (args : List Value) (ds : List (DataW H)) (p : List MemPlace) (hval : ∀ (j : Nat) t v, Tryz.f9.params.toList[j]? = some t → args[j]? = some v → Value.okWide Tryz.prog W .any base t v)
  (hA : DataW.TrodAll enc Tryz.prog W 0 (fun _ => true) true Tryz.f9.params.toList args ds p) (hG : GP W ∧ GF W) : Fn Tryz.prog 9 args W fun v w' => v = .bool true ∧ Ext W w' := by
 rw [Tryz.params9] at hA hval
 obtain ⟨v0, _, d0, _, p0, q0, rfl, rfl, rfl, h0, r0⟩ := trodAll_cons hA
 obtain ⟨rfl, rfl, rfl⟩ := trodAll_nil r0
 obtain ⟨s0, rfl, _, _, _⟩ := open_string Tryz.underlying9 (hval 0 _ v0 rfl rfl) h0
 exact canonical_ok W s0.data.toList hG.1 hG.2
theorem PrinterCanonical_laidMet (os : Os) : laidMet Tryz.prog laidL ((laidWorld os).forCall (fun _ _ => 0) ⟨#[], #[.string .empty], []⟩).memory := laidMet_of_run' 8 (by kernel_rfl) (by kernel_rfl)
theorem PrinterCanonical_reads (os : Os) {H : Type} (enc : TypeId × Value → H) : ∃ places, DataW.whole enc Tryz.prog ((laidWorld os).forCall (fun _ _ => 0) ⟨#[], #[.string .empty], []⟩).memory Tryz.f9.params.toList Rows.printerCanonicalSpec.vars false #[.string .empty].toList 8 = some ([.lit (.string [])], [], places) := ⟨[], by kernel_rfl⟩
set_option maxRecDepth 100000 in
theorem PrinterCanonical_lifted (os : Os) (started : os.Started) (H : Type) (enc : TypeId × Value → H) (F : Stop.Interp) :
  ReturnsInHanded {} Tryz.checked os 9 .any ((OpenSpec.ofChange Rows.printerCanonicalSpec).preRow enc Tryz.prog Tryz.f9 Rows.printerCanonicalRow.domain false Rows.printerCanonicalRow.laid) (((OpenSpec.ofChange Rows.printerCanonicalSpec).at F).post enc Tryz.prog Tryz.f9 false true false false) := by
 obtain ⟨places, hx⟩ := PrinterCanonical_reads os enc
 exact law_liftedL started F (by kernel_rfl) Tryz.func9
  (witness_row_atRef (enc := enc) (C := Tryz.checked) false (laidWorld os) #[.string .empty] rfl (by kernel_rfl) (by kernel_rfl) (by kernel_rfl)
   (OpenSpec.preRow_of_cond 8 hx (by kernel_rfl) (fun k hk => by cases hk) (by kernel_rfl) (PrinterCanonical_laidMet os))) rfl (by kernel_rfl) (by kernel_rfl)
  (fun ds h => by
   match ds, h with
   | [d1], _ => rfl) PrinterCanonical_open
theorem PrinterCanonical_said : Rows.PrinterCanonicalSaid :=
 OpenClaim.holds_of_cond 9 Tryz.f9 rfl rfl rfl rfl rfl rfl rfl ⟨rfl, rfl, rfl, rfl, rfl⟩ rfl rfl rfl rfl rfl (by kernel_rfl) Tryz.func9 (by kernel_rfl)
  (of_decide_eq_true (by kernel_rfl)) (by unfold Func.isWrapper; first | (rw [if_pos (by decide +kernel)]; kernel_rfl) | (rw [if_neg (by decide +kernel)]; exact ⟨rfl, rfl⟩))
  (fun os started H enc _ F => by rw [OpenClaim.pre_eq_preRow]; exact PrinterCanonical_lifted os started H enc F)
theorem PrinterCanonical_plain (f : FuncId) (fn : Func) (hf : Tryz.pinned.checked.prog.funcNamed "foresight/foresightlaw06.PrinterCanonical" = some f) (hfn : Tryz.pinned.checked.prog.funcs[f]? = some fn) :
  true = Tryz.pinned.checked.prog.looks [] ∧ ∀ (j : Nat) t, fn.params[j]? = some t → Tryz.pinned.checked.prog.wantsStandIn t = false := by
 obtain rfl : f = 9 := Option.some.inj ((show Tryz.prog.funcNamed "foresight/foresightlaw06.PrinterCanonical" = some 9 by kernel_rfl).symm.trans hf) |>.symm
 obtain rfl : fn = Tryz.f9 := (Option.some.inj (Tryz.func9.symm.trans hfn)).symm
 refine ⟨by kernel_rfl, fun j t ht => ?_⟩
 have hall : (Tryz.f9.params.toList.all fun t => !Tryz.prog.wantsStandIn t) = true := by kernel_rfl
 have := List.all_eq_true.1 hall t (by simpa using Array.mem_of_getElem? ht)
 exact Bool.not_eq_true' _ |>.mp this
theorem PrinterCanonical_proved : Rows.PrinterCanonicalCardSaid :=
 Claim7.holds_tied_plain_at .later [] _ _ _ _ PrinterCanonical_said (fun _ h => by cases h) (by kernel_rfl) (fun _ h => by cases h) printerCanonical_row_tie rfl ⟨rfl, rfl⟩ (by kernel_rfl) rfl PrinterCanonical_plain (by kernel_rfl)
end Go.Proofs.YtfcgdbmoncnibaaGreatDoor
