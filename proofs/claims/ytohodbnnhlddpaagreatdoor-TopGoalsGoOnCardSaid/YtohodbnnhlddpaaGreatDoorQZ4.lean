/- TopGoalsGoOn, part 4 of 16: rules, lemmas, walks. Conditions: none. -/
import Derived.Test.YtohodbnnhlddpaaGreatDoorQZ3
import Derived.Lib.ConvBytes
namespace Go.Proofs.YtohodbnnhlddpaaGreatDoor
open Go.RowKit
set_option linter.unusedVariables false
section
variable {mk : Prop} [MK mk]
def inSpan (c : UInt8) (p : Nat × Nat × Nat) : Bool := decide (p.1 ≤ c.toNat) && decide (c.toNat ≤ p.2.1)
def kindB (c : UInt8) : Option Nat := (spansL.find? (inSpan c)).map (·.2.2)
def CA (t : LU) (a : Nat) (m : List Tok) : Res :=
 match kindB (t.getD a 0) with
 | some 0 => blankM a m
 | some 1 => commM t a m
 | some 2 => nameM t a m
 | some 3 => numM t a m
 | some _ => symM t a m
 | none => .error (40, a)
def scanF (t : LU) : Nat → Nat → List Tok → Res
 | 0, a, _ => .error (40, a)
 | n + 1, a, ts => if a < t.length then (match CA t a ts with | .ok (a', ts') => scanF t n a' ts' | .error e => .error e) else .ok (a, ts)
def scanR (t : LU) : Res := scanF t (t.length + 1) 0 []
theorem C3 {t : LU} {a n b : Nat} {m s : List Tok} {k : Int} (h : addM t a m k n = .ok (b, s)) : b = n := by
 unfold addM at h
 split at h
 ·cases h
 ·cases h; rfl
theorem kindB_dig {c : UInt8} (h : kindB c = some 3) : A8 c = true := by
 unfold kindB at h;obtain ⟨p, v, P⟩ := Option.map_eq_some_iff.1 h;have X := List.find?_some v;have W := List.mem_of_find?_eq_some v;simp [spansL] at W;rcases W with rfl | rfl | rfl | rfl | rfl | rfl | rfl | rfl | rfl | rfl | rfl | rfl | rfl | rfl | rfl | rfl <;> simp at P;simpa [inSpan, A8] using X
theorem kindB_comm {c : UInt8} (h : kindB c = some 1) : inComm c = true := by
 unfold kindB at h;obtain ⟨p, v, P⟩ := Option.map_eq_some_iff.1 h;have X := List.find?_some v;have W := List.mem_of_find?_eq_some v;simp [spansL] at W;rcases W with rfl | rfl | rfl | rfl | rfl | rfl | rfl | rfl | rfl | rfl | rfl | rfl | rfl | rfl | rfl | rfl <;> simp at P;simp [inSpan] at X;simp [inComm]; omega
theorem step_on {t : LU} {a b : Nat} {m s : List Tok} (M : a < t.length) (h : CA t a m = .ok (b, s)) : a < b := by
 have T : t[a]? = some t[a] := List.getElem?_eq_getElem M;generalize t[a] = c at T;unfold CA at h;rw [getD_of T] at h
 split at h
 ·cases h; omega
 ·cases h;rw [whileB_step T (kindB_comm Do)];have := whileB_ge inComm t (a + 1); omega
 ·unfold nameM at h
  split at h
  ·cases h
  ·have := C3 h; have := whileB_ge inName t (a + 1); omega
 ·unfold numM at h
  split at h
  ·cases h
  ·have := C3 h;rw [whileB_step T (kindB_dig Do)] at this;have := whileB_ge A8 t (a + 1); omega
 ·unfold symM at h
  split at h
  ·rename_i y hy;have W := List.mem_of_find?_eq_some hy;have := C3 h;have H : ∀ y ∈ symsL, 1 ≤ y.length := by decide
   have := H y W; omega
  ·cases h
 ·cases h
theorem spanC_at : ∀ (l : List (Nat × Nat × Nat)) (k : Nat) (p : Nat × Nat × Nat), l[k]? = some p → ((l.flatMap spanC1).drop (k * 3)).take 3 = spanC1 p
 | [], k, p, h => by simp at h
 | q :: l, 0, p, h => by simp at h; subst h; simp [spanC1]
 | q :: l, k + 1, p, h => by
  have := spanC_at l k p Dy;rw [← this, List.flatMap_cons, List.drop_append, List.drop_eq_nil_of_le (by simp [spanC1]; omega), List.nil_append]
  congr 2
  simp [spanC1]; omega
def fnC (s : Nat) : LV := [.func (.func 192) #[pt s] #[], .func (.func 193) #[pt s] #[], .func (.func 194) #[pt s] #[], .func (.func 195) #[pt s] #[], .func (.func 196) #[pt s] #[]]
theorem scan_ok (w : World) (s : Nat) (t : LU) (S : Blk w s 213 [AI t, iV 0, .slice none 0 0]) (hG : GV w) (b5 : 10 ≤ s) (M : t.length ≤ 6000) : FnS 160 [pt s] w w s t (scanR t) := by
 have hsz := S.lt;refine A5 Tryz.func160 rfl Tryz.ntmps160 nlr Dk ?_;repeat refine nx rfl ?_
 refine AJ (Ag rfl (Dd rfl rfl (Ag rfl (Dd rfl rfl (Ag rfl (Dd rfl rfl (Ag rfl (Dd rfl rfl (Ag rfl (Dd rfl rfl (W_buildArr Dn Dn ?_)))))))))));refine AQ (fun w1 n1 => ?_);refine AE (cs := fnC s) rfl rfl rfl (by intro u r; simp [fnC] at r; rcases r with rfl | rfl | rfl | rfl | rfl <;> rfl) n1.D (by simp [fnC]) (fun L P => ?_);have a3 : Blk L w.heap.size 246 (fnC s) := P.D;have z : Ext w L := n1.E.E P.E O;have b0 := S.E z O;repeat refine nx rfl ?_
 have a2 := hG.ext z;have b4 : St L L s t 0 [] := ⟨Keep.refl _ _, by have := z.size; omega, M, by omega, by simp, _, b0, ⟨rfl, .inl ⟨rfl, rfl⟩⟩⟩;have c0 := a3.lt
 have b1 : ∀ Z a d, St L Z s t a d → St w Z s t a d := fun Z a d h => by
  obtain ⟨hk, hs, M, ha, hn, tv, S, ho⟩ := h;exact ⟨z.any.trans hk fun x hx _ => hx, hsz, M, ha, hn, tv, S, Bf ho z.size⟩
 have l : ∀ Z, Keep [s] L Z → Keep [s] w Z := fun Z h => z.any.trans h fun x hx _ => hx;refine Ah (α := Nat × Nat × List Tok) (fun _ => [(0, pt s), (2, pt w.heap.size)]) (fun x w1 => St L w1 s t x.2.1 x.2.2 ∧ t.length < x.1 + x.2.1 ∧ scanF t x.1 x.2.1 x.2.2 = scanR t) (fun x => x.1) (t.length + 1, 0, []) ⟨rfl, rfl, trivial⟩ ⟨b4, by simp, rfl⟩ ?_;rintro ⟨n, a, d⟩ w3 f' ⟨D, hn, b⟩;simp only at D hn b ⊢;obtain ⟨n, rfl⟩ : ∃ m, n = m + 1 := ⟨n - 1, by have := D.loc; omega⟩;unfold scanF at b;repeat refine nx rfl ?_
 refine AW (rd 0 10 .done) Al Dk (fun K N ed => ⟨fun W => W = K, ?_, ?_⟩)
 ·rfl
 obtain ⟨c3, c8, _, b8, c4, d0, a4, c6⟩ := id D;have a0 := a4.E N O;by_cases g : a < t.length
 ·rw [if_pos g] at b;((apply D_R rfl rfl; (intro W B; subst B; refine Ag rfl ?_; exact Z3)) <;> (apply D_R rfl rfl; (intro W B; subst B; refine AK rfl ?_; exact Z3)) <;> (apply D_R rfl rfl; (intro W B; subst B; refine AF rfl ?_; exact Z3)) <;> (apply D_R rfl rfl; (intro W B; subst B; refine AM rfl (Blk.cell Do Dn) ?_; exact Z3)) <;> (apply D_R rfl rfl; (intro W B; subst B; refine Ag rfl ?_; exact Z3)) <;> (apply D_R rfl rfl; (intro W B; subst B; refine AK rfl ?_; exact Z3)) <;> (apply D_R rfl rfl; (intro W B; subst B; refine AF rfl ?_; exact Z3)) <;> (apply D_R rfl rfl; (intro W B; subst B; refine AM rfl (Blk.cell Do Dn) ?_; exact Z3)) <;> (apply D_R rfl rfl; (intro W B; subst B; refine W_slen rfl ?_; exact Z3)) <;> refine D_lssT rfl rfl rfl rfl U (Cb ?_))
  have a1 := D.ext N;have hc : t[a]? = some t[a] := List.getElem?_eq_getElem g;generalize t[a] = c at hc;have a7 : GV K := a2.E a1.E Dl Dl;have a8 : Blk K w.heap.size 246 (fnC s) := a3.E a1.E Dl;repeat refine nx rfl ?_
  clear a0;refine AW (rd 0 10 .done) Al Dk (fun K N ed => ⟨fun W => W = K, ?_, ?_⟩)
  ·rfl
  have a0 := (a4.E Do O).E N O;((apply D_R rfl rfl; (intro W B; subst B; refine Ag rfl ?_; exact Z3)) <;> (apply D_R rfl rfl; (intro W B; subst B; refine AK rfl ?_; exact Z3)) <;> (apply D_R rfl rfl; (intro W B; subst B; refine AF rfl ?_; exact Z3)) <;> (apply D_R rfl rfl; (intro W B; subst B; refine AM rfl (Blk.cell Do Dn) ?_; exact Z3)) <;> (apply D_R rfl rfl; (intro W B; subst B; refine Ag rfl ?_; exact Z3)) <;> (apply D_R rfl rfl; (intro W B; subst B; refine AK rfl ?_; exact Z3)) <;> (apply D_R rfl rfl; (intro W B; subst B; refine AF rfl ?_; exact Z3)) <;> (apply D_R rfl rfl; (intro W B; subst B; refine AM rfl (Blk.cell Do Dn) ?_; exact Z3)) <;> (apply D_R rfl rfl; (intro W B; subst B; refine W_sidx rfl rfl Do ?_; exact Z3)) <;> (apply D_R rfl rfl; (intro W B; subst B; (refine Ac ?_; refine Af rfl ?_); exact Z3)) <;> refine Cb ?_)
  have b6 := a1.ext N;have a6 := a7.ext N;have a9 := a8.E N O;clear a0;repeat refine nx rfl ?_
  refine AJ (AR rfl rfl a6.spans (Af rfl ?_));repeat refine nx rfl ?_
  have H : CA t a d = match (spansL.find? (inSpan c)).map (·.2.2) with | some 0 => blankM a d | some 1 => commM t a d | some 2 => nameM t a d | some 3 => numM t a d | some _ => symM t a d | none => .error (40, a) := by
   unfold CA; rw [getD_of hc]; rfl
  refine Ah (α := Nat) (fun k => [(0, pt s), (2, pt w.heap.size), (3, enc8 c), (36, .agg spanC.toArray), (37, iV (k : Int))]) (fun k Q => k ≤ 16 ∧ Ext K Q ∧ spansL.find? (inSpan c) = (spansL.drop k).find? (inSpan c)) (fun k => 16 - k) 0 ⟨rfl, rfl, rfl, rfl, rfl, trivial⟩ ⟨by omega, Ext.refl _, rfl⟩ ?_;rintro k Q f5 ⟨hk, G, I⟩;have h5 := b6.ext G;repeat refine nx rfl ?_
  by_cases a5 : k < 16
  ·have T : spansL[k]? = some spansL[k] := List.getElem?_eq_getElem a5;generalize spansL[k] = p at T;rw [find_step T] at I
   have b3 : p.2.2 < 5 := by
    have : ∀ p ∈ spansL, p.2.2 < 5 := by decide
    exact this p (List.mem_of_getElem? T)
   refine AJ (W_lssT rfl rfl U ?_);repeat refine nx rfl ?_
   (refine AJ ?_; refine W_vidx rfl rfl a5 (spanC_at _ _ _ T) ?_; refine AQ (fun w6 n6 => ?_))
   refine AE (cs := spanC1 p) rfl rfl rfl (by intro u r; simp [spanC1] at r; rcases r with rfl | rfl | rfl <;> rfl) n6.D (by simp [spanC1]) (fun V p7 => ?_);have b7 : Blk V Q.heap.size 248 (spanC1 p) := p7.D;have X : Ext Q V := n6.E.E p7.E O;have C := h5.ext X;repeat refine nx rfl ?_
   have hb7 : Blk V w.heap.size 246 (fnC s) := (a9.E G O).E X O;obtain ⟨p1, P, A⟩ := p;simp only at b3;replace b7 : Blk V Q.heap.size 248 [.int .u8 (p1 : Int), .int .u8 (P : Int), iV (A : Int)] := b7;by_cases c1 : p1 ≤ c.toNat
   ·by_cases c2 : c.toNat ≤ P
    ·rw [if_pos (by simp [inSpan, c1, c2])] at I;(refine AJ (AF rfl (AM rfl (Blk.cell Do Dn) ?_)) <;> refine Af rfl (W_leqT rfl rfl U (AP rfl (AS rfl (Af rfl (AS rfl (AF rfl (AS rfl (AM rfl (Blk.cell Do Dn) ?_)))))))) <;> refine AS rfl (W_leqT rfl rfl U (A4 rfl (AP rfl ?_))))
     repeat refine nx rfl ?_
     obtain rfl | rfl | rfl | rfl | rfl : A = 0 ∨ A = 1 ∨ A = 2 ∨ A = 3 ∨ A = 4 := by omega
     ·have f : CA t a d = blankM a d := by rw [H, I]; rfl
      (refine AJ (AF rfl (AM rfl (Blk.cell Do Dn) ?_)) <;> refine Da rfl rfl U U (AM rfl (Blk.cell Do Dn) ?_))
      refine Cu (v1 := [pt s]) (v2 := []) (vs := []) rfl (blank_ok L _ s a t d C g) rfl ?_ ?_
      ·exact ET
      ·exact EX
     ·have f : CA t a d = commM t a d := by rw [H, I]; rfl
      (refine AJ (AF rfl (AM rfl (Blk.cell Do Dn) ?_)) <;> refine Da rfl rfl U U (AM rfl (Blk.cell Do Dn) ?_))
      refine Cu (v1 := [pt s]) (v2 := []) (vs := []) rfl (comment_ok L _ s a t d C) rfl ?_ ?_
      ·exact ET
      ·exact EX
     ·have f : CA t a d = nameM t a d := by rw [H, I]; rfl
      (refine AJ (AF rfl (AM rfl (Blk.cell Do Dn) ?_)) <;> refine Da rfl rfl U U (AM rfl (Blk.cell Do Dn) ?_))
      refine Cu (v1 := [pt s]) (v2 := []) (vs := []) rfl (scanName_ok L _ s a t d C g) rfl ?_ ?_
      ·exact ET
      ·exact EX
     ·have f : CA t a d = numM t a d := by rw [H, I]; rfl
      (refine AJ (AF rfl (AM rfl (Blk.cell Do Dn) ?_)) <;> refine Da rfl rfl U U (AM rfl (Blk.cell Do Dn) ?_))
      refine Cu (v1 := [pt s]) (v2 := []) (vs := []) rfl (scanNumber_ok L _ s a t d C g) rfl ?_ ?_
      ·exact ET
      ·exact EX
     ·have f : CA t a d = symM t a d := by rw [H, I]; rfl
      (refine AJ (AF rfl (AM rfl (Blk.cell Do Dn) ?_)) <;> refine Da rfl rfl U U (AM rfl (Blk.cell Do Dn) ?_))
      refine Cu (v1 := [pt s]) (v2 := []) (vs := []) rfl (symbol_ok L _ s a t d C g a2 b5) rfl ?_ ?_
      ·exact ET
      ·exact EX
    ·rw [if_neg (by simp [inSpan, c2])] at I;(refine AJ (AF rfl (AM rfl (Blk.cell Do Dn) ?_)) <;> refine Af rfl (W_leqT rfl rfl U (AP rfl (AS rfl (Af rfl (AS rfl (AF rfl (AS rfl (AM rfl (Blk.cell Do Dn) ?_)))))))) <;> refine AS rfl (W_leqF rfl rfl U (A4 rfl (AP rfl ?_))))
     repeat first | refine nx rfl ?_ | refine nf rfl ?_
     (refine AJ (W_add rfl rfl Du ?_) <;> refine Af rfl ?_)
     repeat refine nx rfl ?_
     refine ⟨k + 1, ⟨rfl, ⟨rfl, rfl, rfl, rfl, ?_, trivial⟩, ⟨by omega, G.trans X, I⟩⟩, by omega⟩;show iV ((k : Int) + 1) = _;rw [Int.natCast_add]; rfl
   ·rw [if_neg (by simp [inSpan, c1])] at I;(refine AJ (AF rfl (AM rfl (Blk.cell Do Dn) ?_)) <;> refine Af rfl (W_leqF rfl rfl U (AP rfl (Ax rfl (Ax rfl (Ax rfl (Ax rfl (Au rfl (AP rfl ?_)))))))))
    repeat first | refine nx rfl ?_ | refine nf rfl ?_
    (refine AJ (W_add rfl rfl Du ?_) <;> refine Af rfl ?_)
    repeat refine nx rfl ?_
    refine ⟨k + 1, ⟨rfl, ⟨rfl, rfl, rfl, rfl, ?_, trivial⟩, ⟨by omega, G.trans X, I⟩⟩, by omega⟩;show iV ((k : Int) + 1) = _;rw [Int.natCast_add]; rfl
  ·obtain ⟨b2, c9, _, b9, c5, d1, hb6, c7⟩ := id h5;refine AJ (W_lssF rfl rfl U ?_);repeat first | refine nx rfl ?_ | refine nf rfl ?_
   (refine AJ (Ag rfl (AK rfl (AF rfl (AM rfl (Blk.cell Do Dn) ?_)))) <;> refine Bo Dn Dn ?_ <;> refine DO (DX rfl ?_))
   repeat refine nx rfl ?_
   have hd : spansL.drop k = [] := List.drop_eq_nil_of_le (by show 16 ≤ k; omega);rw [hd] at I;rw [H, I] at b;exact Ai ⟨_, _, b.symm, rfl, l _ b2⟩
 ·rw [if_neg g] at b;((apply D_R rfl rfl; (intro W B; subst B; refine Ag rfl ?_; exact Z3)) <;> (apply D_R rfl rfl; (intro W B; subst B; refine AK rfl ?_; exact Z3)) <;> (apply D_R rfl rfl; (intro W B; subst B; refine AF rfl ?_; exact Z3)) <;> (apply D_R rfl rfl; (intro W B; subst B; refine AM rfl (Blk.cell Do Dn) ?_; exact Z3)) <;> (apply D_R rfl rfl; (intro W B; subst B; refine Ag rfl ?_; exact Z3)) <;> (apply D_R rfl rfl; (intro W B; subst B; refine AK rfl ?_; exact Z3)) <;> (apply D_R rfl rfl; (intro W B; subst B; refine AF rfl ?_; exact Z3)) <;> (apply D_R rfl rfl; (intro W B; subst B; refine AM rfl (Blk.cell Do Dn) ?_; exact Z3)) <;> (apply D_R rfl rfl; (intro W B; subst B; refine W_slen rfl ?_; exact Z3)) <;> refine D_lssF rfl rfl rfl rfl U (Cb ?_))
  repeat first | refine nx rfl ?_ | refine nf rfl ?_
  exact BF rfl ⟨rfl, _, _, b.symm, b1 _ _ _ (D.ext N)⟩
theorem rec_ret (w : World) (E Z T : Nat) : CallsDIn Fence.wide 0 Zp 159 ([] ++ [pt E, pt Z, pt T] : LV).toArray .returning w (fun e v w' => match e with | .returned _ => v = .returning ∧ Ext w w' | _ => False) := by
 refine callsD_rec (u1 := .returning) (v0 := .nilIface) (G := fun _ w' => Ext w w') (args := [pt E, pt Z, pt T]) Tryz.func159 rfl Tryz.ntmps159 O Dt Dk Dk (.inl ⟨rfl, rfl, rfl⟩) ?_;refine W_assert_nil (z := .agg #[iV 0, iV 0]) rfl Dk (go ?_);refine AQ (fun Q a => ?_);refine AE (cs := [iV 0, iV 0]) rfl rfl rfl (by intro u r; simp at r; subst r; rfl) a.D O (fun L s => ?_);have l : Ext w L := a.E.E s.E O;refine go ?_;exact BF rfl l
theorem rec_pan (w : World) (E Z T : Nat) (o j i : Value) (e q : Int) (b : Blk w E 159 [o]) (a : Blk w Z 43 [j]) (c : Blk w T 3 [i]) (A : E ≠ Z) (d : E ≠ T) (y : Z ≠ T) :
  CallsDIn Fence.wide 0 Zp 159 ([] ++ [pt E, pt Z, pt T] : LV).toArray (.panicking [{ v := .iface 209 (.agg #[iV e, iV q]), recovered := false }]) w
   (fun m n w' => match m with | .returned _ => n = .panicking [{ v := .iface 209 (.agg #[.int .i64 e, .int .i64 q]), recovered := true }] ∧ (Keep [E, Z, T] w w' ∧ Blk w' E 159 [.slice none 0 0] ∧ Blk w' Z 43 [.int .i64 e] ∧ Blk w' T 3 [.int .i64 q]) | _ => False) := by
 have z := b.lt;have B := a.lt;have C := c.lt
 refine callsD_rec (u1 := .panicking [{ v := .iface 209 (.agg #[iV e, iV q]), recovered := true }]) (v0 := .iface 209 (.agg #[iV e, iV q]))
  (G := fun _ w' => Keep [E, Z, T] w w' ∧ Blk w' E 159 [.slice none 0 0] ∧ Blk w' Z 43 [iV e] ∧ Blk w' T 3 [iV q]) (args := [pt E, pt Z, pt T]) Tryz.func159 rfl Tryz.ntmps159 O Dt Dk Dk (.inr ⟨_, rfl, rfl, rfl⟩) ?_
 refine W_assert_yes rfl ?_;refine M_tuple rfl (W_extract rfl rfl (W_extract rfl rfl ?_));refine AQ (fun Q g => ?_);refine AE (cs := [iV e, iV q]) rfl rfl rfl EI g.D O (fun L s => ?_);have l : Ext w L := g.E.E s.E O;have t : Blk L w.heap.size 209 [iV e, iV q] := s.D;replace b := b.E l O;replace a := a.E l O;replace c := c.E l O;refine go ?_;refine AW (rd 0 4 (.alt 4 (.alt 5 (.alt 6 .done .stop) .stop) .stop)) Al Dk (fun K N I => ⟨fun W => W.cell? ⟨w.heap.size, 0, none⟩ = some (iV e) ∧ W.cell? ⟨w.heap.size, 1, none⟩ = some (iV q), ?_, ?_⟩)
 ·exact ⟨(t.E N O).cell rfl, (t.E N O).cell rfl⟩
 have H : ∀ W : World, (W.cell? ⟨w.heap.size, 0, none⟩ = some (iV e) ∧ W.cell? ⟨w.heap.size, 1, none⟩ = some (iV q)) → W.cell? ⟨w.heap.size, 0, none⟩ = some (iV e) := fun W h => h.1;have x : ∀ W : World, (W.cell? ⟨w.heap.size, 0, none⟩ = some (iV e) ∧ W.cell? ⟨w.heap.size, 1, none⟩ = some (iV q)) → W.cell? ⟨w.heap.size, 1, none⟩ = some (iV q) := fun W h => h.2;replace t := t.E N O;replace b := b.E N O;replace a := a.E N O;replace c := c.E N O;have k : Keep [E, Z, T] w K := (l.trans N).any;refine go ?_;refine D_E rfl ?_;refine AN rfl rfl rfl b O (fun W p => ?_);have f := p.D;replace a := a.E p.E Dl;replace c := c.E p.E Dl;replace t := t.E p.E Dl;replace k := k.trans p.E O;clear b;have b := f;clear f p;refine wNl (⟨t.cell rfl, t.cell rfl⟩) ?_;refine D_E rfl ?_;refine AN rfl rfl rfl a O (fun W p => ?_);have f := p.D;replace b := b.E p.E Dl;replace c := c.E p.E Dl;replace t := t.E p.E Dl;replace k := k.trans p.E O;clear a;have a := f;clear f p;refine wNl (⟨t.cell rfl, t.cell rfl⟩) ?_;refine D_E rfl ?_;refine AN rfl rfl rfl c O (fun W p => ?_);have f := p.D;replace b := b.E p.E Dl;replace a := a.E p.E Dl;replace t := t.E p.E Dl;replace k := k.trans p.E O;clear c;have c := f;clear f p;refine wNl (⟨t.cell rfl, t.cell rfl⟩) ?_;refine go ?_;exact BF rfl ⟨k, b, a, c⟩
def lexM (t : LU) : Except (Int × Nat) (List Tok) :=
 if 6000 < t.length then .error (2, 6000) else match scanR t with | .ok r => .ok r.2 | .error e => .error e
def LexAns (B : Nat) (w' : World) (m : Except (Int × Nat) (List Tok)) (tv : Value) (e q : Int) : Prop :=
 match m with
 | .ok ts => e = 0 ∧ q = -1 ∧ w'.ownsRow B 217 3 tv ts.length (toksC ts)
 | .error (e', p) => e = e' ∧ q = (p : Int) ∧ tv = .slice none 0 0
theorem lex_ok (w : World) (t : LU) (D : GV w) : Fn Zp 101 [AI t] w fun v w' => ∃ tv e q, v = .tuple #[tv, iV e, iV q] ∧ Ext w w' ∧ LexAns w.heap.size w' (lexM t) tv e q := by
 have h2 := D.size;refine Cx Tryz.func101 rfl Tryz.ntmps101 nlr Dk (go ?_);refine AQ (fun Q T => ?_);refine AQ (fun i V => ?_);refine AQ (fun u j => ?_);have z1 := T.size;have z2 := V.size;have z3 := j.size;have k : Blk u w.heap.size 159 [.slice none 0 0] := (T.D.E V.E O).E j.E O;have I : Blk u Q.heap.size 43 [iV 0] := V.D.E j.E O;have M : Blk u i.heap.size 3 [iV 0] := j.D;have k3 : Ext w u := (T.E.trans V.E).trans j.E;refine go ?_;by_cases X : 6000 < t.length
 ·refine go ?_;refine AN rfl rfl rfl k O (fun B l => ?_);refine AN rfl rfl rfl (I.E l.E Dl) O (fun W A => ?_);refine AN rfl rfl rfl ((M.E l.E Dl).E A.E Dl) O (fun o b => ?_);have G : Blk o w.heap.size 159 [.slice none 0 0] := (l.D.E A.E Dl).E b.E Dl;have E : Blk o Q.heap.size 43 [iV 2] := A.D.E b.E Dl;have Z : Blk o i.heap.size 3 [iV 6000] := b.D;have k6 : Ext w o := ((k3.E l.E O).E A.E Dl).E b.E Dl;refine go ?_;refine BA (A9 rfl (G.cell rfl) (A9 rfl (E.cell rfl) (A9 rfl (Z.cell rfl) ?_)));refine ⟨_, _, _, rfl, k6, ?_⟩;unfold lexM;rw [if_pos X];exact ⟨rfl, rfl, rfl⟩
 ·refine go ?_;refine W_defer (v1 := []) (v2 := [pt w.heap.size, pt Q.heap.size, pt i.heap.size]) (vs := []) rfl rfl (go ?_);refine Aj (L := [AI t, iV 0, .slice none 0 0]) rfl (fun B K => ?_);have z4 := K.size;have s4 := K.D;have R : Ext w B := k3.trans K.E;refine go ?_;have hm : lexM t = match scanR t with | .ok r => .ok r.2 | .error e => .error e := by unfold lexM; rw [if_neg X]
  refine Ap (scan_ok B u.heap.size t s4 (D.ext R) U U) rfl ?_ ?_
  ·rintro v W ⟨rfl, a, m, F, h5⟩;obtain ⟨y, a5, _, a2, a4, tv, a3, S⟩ := h5;refine go ?_;have N : Blk W w.heap.size 159 [.slice none 0 0] := (k.E K.E O).E y Dl;have x : Blk W Q.heap.size 43 [iV 0] := (I.E K.E O).E y Dl;have P : Blk W i.heap.size 3 [iV 0] := (M.E K.E O).E y Dl
   obtain ⟨n, s, rfl⟩ : ∃ n s, tv = .slice n m.length s := by
    rcases S.2 with ⟨rfl, h0⟩ | ⟨g, a0, a1, rfl, _⟩
    ·exact ⟨none, 0, by rw [h0]⟩
    ·exact ⟨_, _, rfl⟩
   refine AN rfl rfl rfl N O (fun o b => ?_);refine AN rfl rfl rfl (x.E b.E Dl) O (fun w7 d => ?_);refine AN rfl rfl rfl ((P.E b.E Dl).E d.E Dl) O (fun C h => ?_);have G : Blk C w.heap.size 159 [.slice n m.length s] := (b.D.E d.E Dl).E h.E Dl;have E : Blk C Q.heap.size 43 [iV 0] := d.D.E h.E Dl;have Z : Blk C i.heap.size 3 [iV (-1)] := h.D;have f : Ext w W := R.E y Dl;have k8 : Ext w C := ((f.E b.E O).E d.E Dl).E h.E Dl;have H : ∀ g, (Value.slice n m.length s).ownBlock = some g → B.heap.size ≤ g := fun g z => (Ab S z).1;have o8 := Ad (Ad (Ad S b.E fun g z => by have := H g z; simp; omega) d.E fun g z => by have := H g z; simp; omega) h.E fun g z => by have := H g z; simp; omega
   refine go ?_;refine finD_ret_def (rec_ret _ _ _ _) fun w9 c => ?_;refine A9 rfl ((G.E c O).cell rfl) (A9 rfl ((E.E c O).cell rfl) (A9 rfl ((Z.E c O).cell rfl) ?_));refine ⟨_, _, _, rfl, k8.trans c, ?_⟩;rw [hm, F];exact ⟨rfl, rfl, Bf (Aa o8 c) R.size⟩
  ·rintro ch W ⟨e, p, F, rfl, y⟩;refine go ?_;have N : Blk W w.heap.size 159 [.slice none 0 0] := (k.E K.E O).E y Dl;have x : Blk W Q.heap.size 43 [iV 0] := (I.E K.E O).E y Dl;have P : Blk W i.heap.size 3 [iV 0] := (M.E K.E O).E y Dl;have f : Ext w W := R.E y Dl;refine finD_pan_def (rec_pan _ _ _ _ _ _ _ e (p : Int) N x P U U U) fun w9 h9 => ?_;obtain ⟨c, G, E, Z⟩ := h9;refine A9 rfl (G.cell rfl) (A9 rfl (E.cell rfl) (A9 rfl (Z.cell rfl) ?_));refine ⟨_, _, _, rfl, f.E c Dl, ?_⟩;rw [hm, F];exact ⟨rfl, rfl, rfl⟩
theorem addM_err {t : LU} {a n p : Nat} {m : List Tok} {k e : Int} (h : addM t a m k n = .error (e, p)) : e = 2 ∧ p = a ∧ m.length = 2000 := by
 unfold addM at h
 split at h
 ·cases h; exact ⟨rfl, rfl, by assumption⟩
 ·cases h
theorem stepM_err {t : LU} {a p : Nat} {m : List Tok} {e : Int} (h : CA t a m = .error (e, p)) : p = a ∧ (e = 40 ∨ e = 2 ∧ m.length = 2000) := by
 unfold CA at h
 split at h
 ·cases h
 ·cases h
 ·unfold nameM at h
  split at h
  ·cases h; exact ⟨rfl, .inl rfl⟩
  ·obtain ⟨X, W, R⟩ := addM_err h; exact ⟨W, .inr ⟨X, R⟩⟩
 ·unfold numM at h
  split at h
  ·cases h; exact ⟨rfl, .inl rfl⟩
  ·obtain ⟨X, W, R⟩ := addM_err h; exact ⟨W, .inr ⟨X, R⟩⟩
 ·unfold symM at h
  split at h
  ·obtain ⟨X, W, R⟩ := addM_err h; exact ⟨W, .inr ⟨X, R⟩⟩
  ·cases h; exact ⟨rfl, .inl rfl⟩
 ·cases h; exact ⟨rfl, .inl rfl⟩
theorem scanF_err (t : LU) : ∀ (n a : Nat) (m : List Tok) (e : Int) (p : Nat), scanF t n a m = .error (e, p) → e ≠ 0
 | 0, a, m, e, p, h => by unfold scanF at h; cases h; decide
 | n + 1, a, m, e, p, h => by
  unfold scanF at h
  split at h
  ·cases hs : CA t a m with
   | ok r => rw [hs] at h; exact scanF_err t n _ _ e p h
   | error r =>
    rw [hs] at h;cases h;rcases (stepM_err hs).2 with rfl | ⟨rfl, _⟩ <;> decide
  ·cases h
theorem lexM_err {t : LU} {e : Int} {p : Nat} (h : lexM t = .error (e, p)) : e ≠ 0 := by
 unfold lexM at h
 split at h
 ·cases h; decide
 ·cases hs : scanR t with
  | ok r => rw [hs] at h; cases h
  | error r => rw [hs] at h; cases h; exact scanF_err t _ _ _ _ _ hs
theorem addM_le {t : LU} {a n b : Nat} {m s : List Tok} {k : Int} (h : addM t a m k n = .ok (b, s)) : s = m ++ [⟨k, (t.take n).drop a, a⟩] ∧ m.length ≠ 2000 := by
 unfold addM at h
 split at h
 ·cases h
 ·cases h; exact ⟨rfl, by assumption⟩
theorem step_le {t : LU} {a b : Nat} {m s : List Tok} (M : a < t.length) (h : CA t a m = .ok (b, s)) : b ≤ t.length := by
 unfold CA at h
 split at h
 ·cases h; omega
 ·cases h; exact whileB_le U
 ·unfold nameM at h
  split at h
  ·cases h
  ·have := C3 h; have := whileB_le (p := inName) (t := t) (a := a + 1) U; omega
 ·unfold numM at h
  split at h
  ·cases h
  ·have := C3 h; have := whileB_le (p := A8) (t := t) (a := a) U; omega
 ·unfold symM at h
  split at h
  ·rename_i y hy;have W := List.find?_some hy;have := C3 h;have := ((hasPre_iff _ _).1 W).length_le;simp at this; omega
  ·cases h
 ·cases h
theorem scanF_fuel (t : LU) : ∀ (n m a : Nat) (b : List Tok), a ≤ t.length → t.length < n + a → t.length < m + a → scanF t n a b = scanF t m a b
 | 0, _, _, _, h, h1, _ => by omega
 | _, 0, _, _, h, _, h2 => by omega
 | n + 1, m + 1, a, b, h, h1, h2 => by
  unfold scanF
  split
  ·cases hs : CA t a b with
   | ok r =>
    have d := step_on Do hs;have x := step_le Do hs;exact scanF_fuel t n m r.1 r.2 x U U
   | error e => rfl
  ·rfl
def scanW (t : LU) (a : Nat) (m : List Tok) : Res := scanF t (t.length + 1 - a) a m
theorem scanW_end {t : LU} {m : List Tok} : scanW t t.length m = .ok (t.length, m) := by
 unfold scanW;rw [show t.length + 1 - t.length = 0 + 1 by omega];unfold scanF;rw [if_neg U]
theorem scanW_step {t : LU} {a : Nat} {m : List Tok} (h : a < t.length) : scanW t a m = match CA t a m with | .ok r => scanW t r.1 r.2 | .error e => .error e := by
 unfold scanW;rw [show t.length + 1 - a = (t.length - a) + 1 by omega]
 conv => lhs; unfold scanF
 rw [if_pos h];cases hs : CA t a m with
 | ok r =>
  have d := step_on h hs;have x := step_le h hs;exact scanF_fuel t _ _ r.1 r.2 x U U
 | error e => rfl
theorem scanR_eq (t : LU) : scanR t = scanW t 0 [] := rfl
theorem lexM_of {t : LU} (h : t.length ≤ 6000) : lexM t = match scanW t 0 [] with | .ok r => .ok r.2 | .error e => .error e := by
 unfold lexM; rw [if_neg U, scanR_eq] <;> cases scanW t 0 [] <;> rfl
inductive Reach1 (t : LU) : Nat → List Tok → Nat → List Tok → Prop
 | refl (a : Nat) (ts : List Tok) : Reach1 t a ts a ts
 | step {a a1 b : Nat} {ts ts1 tsb : List Tok} (h : a < t.length) (hs : CA t a ts = .ok (a1, ts1)) (hr : Reach1 t a1 ts1 b tsb) : Reach1 t a ts b tsb
theorem step_shape {t : LU} {a n : Nat} {m b : List Tok} (h : CA t a m = .ok (n, b)) : b = m ∨ ∃ k, b = m ++ [⟨k, (t.take n).drop a, a⟩] := by
 unfold CA at h
 split at h
 ·cases h; exact .inl rfl
 ·cases h; exact .inl rfl
 ·unfold nameM at h
  split at h
  ·cases h
  ·have e := C3 h; subst e; exact .inr ⟨_, (addM_le h).1⟩
 ·unfold numM at h
  split at h
  ·cases h
  ·have e := C3 h; subst e; exact .inr ⟨_, (addM_le h).1⟩
 ·unfold symM at h
  split at h
  ·have e := C3 h; subst e; exact .inr ⟨_, (addM_le h).1⟩
  ·cases h
 ·cases h
theorem reach_of_scan {t : LU} : ∀ (m a : Nat) (b : List Tok), t.length - a ≤ m → a ≤ t.length →
  (∃ y, scanW t a b = .ok (t.length, y) ∧ Reach1 t a b t.length y) ∨ ∃ e p g, scanW t a b = .error (e, p) ∧ Reach1 t a b p g ∧ p < t.length ∧ CA t p g = .error (e, p) := by
 intro m
 induction m with
 | zero =>
  intro a b A H;obtain rfl : a = t.length := by omega
  exact .inl ⟨b, scanW_end, .refl _ _⟩
 | succ m ih =>
  intro a b A H;by_cases h : a < t.length
  ·rw [scanW_step h];cases hs : CA t a b with
   | ok r =>
    have d := step_on h hs;have x := step_le h hs;rcases ih r.1 r.2 U x with ⟨y, X, W⟩ | ⟨e, p, g, X, W, R, w⟩
    ·exact .inl ⟨y, X, .step h hs W⟩
    ·exact .inr ⟨e, p, g, X, .step h hs W, R, w⟩
   | error r =>
    obtain ⟨e, p⟩ := r;obtain ⟨rfl, _⟩ := stepM_err hs;exact .inr ⟨e, p, b, rfl, .refl _ _, h, hs⟩
  ·obtain rfl : a = t.length := by omega
   exact .inl ⟨b, scanW_end, .refl _ _⟩
theorem takeWhile_take {q : UInt8 → Bool} : ∀ (l : LU) (m : Nat), (l.takeWhile q).length ≤ m → ((l.take m).takeWhile q).length = (l.takeWhile q).length
 | [], m, _ => by simp
 | x :: l, 0, h => by simp at h ⊢; cases hq : q x <;> simp_all
 | x :: l, m + 1, h => by
  rw [List.take_succ_cons, List.takeWhile_cons, List.takeWhile_cons] at *;cases hq : q x with
  | false => simp
  | true => simp [hq] at h ⊢; exact takeWhile_take l m h
theorem whileB_take {q : UInt8 → Bool} {t : LU} {a p : Nat} (h : Ay q t a ≤ p) : Ay q (t.take p) a = Ay q t a := by
 unfold Ay at *;rw [List.drop_take, takeWhile_take _ _ U]
theorem addM_take {t : LU} {a n p : Nat} {m : List Tok} {k : Int} (h : n ≤ p) : addM (t.take p) a m k n = addM t a m k n := by
 unfold addM; rw [List.take_take, Nat.min_eq_left h]
theorem getD_take {t : LU} {a p : Nat} (h : a < p) : (t.take p).getD a 0 = t.getD a 0 := by
 simp [List.getD_eq_getElem?_getD, h]
theorem find_same {α : Type} {f g : α → Bool} {l : List α} {y : α} (h : l.find? f = some y) (K : g y = true) (a : ∀ z, g z = true → f z = true) : l.find? g = some y := by
 induction l with
 | nil => cases h
 | cons x l ih =>
  rw [List.find?_cons] at h ⊢;cases hx : f x with
  | true => rw [hx] at h; cases h; rw [K]
  | false =>
   rw [hx] at h;have : g x = false := by cases hgx : g x with | false => rfl | true => rw [a x hgx] at hx; cases hx
   rw [this]; exact ih h
theorem numBad_take {t : LU} {a p : Nat} (v : p ≤ t.length) (H : a < p) (G : Ay A8 t a ≤ p) (h : Bc t a = false) : Bc (t.take p) a = false := by
 unfold Bc at *;rw [whileB_take G, getD_take H];rw [Bool.or_eq_false_iff] at h ⊢;refine ⟨h.1, ?_⟩;by_cases y : Ay A8 t a < p
 ·rw [getD_take y];have W := h.2;rw [decide_eq_true (show Ay A8 t a < t.length by omega)] at W;rw [Bool.true_and] at W;rw [W]; simp
 ·rw [decide_eq_false Dl]; rfl
theorem step_take {t : LU} {a n p : Nat} {m b : List Tok} (v : p ≤ t.length) (M : a < t.length) (D : CA t a m = .ok (n, b)) (X : n ≤ p) : CA (t.take p) a m = .ok (n, b) := by
 have d := step_on M D;have E : a < p := by omega
 unfold CA at D ⊢;rw [getD_take E]
 split at D
 ·exact D
 ·cases D;simp only [commM];rw [whileB_take X]
 ·unfold nameM at D ⊢
  split at D
  ·cases D
  ·have e := C3 D;subst e;rw [whileB_take X, if_neg Do, addM_take X]; exact D
 ·unfold numM at D ⊢
  split at D
  ·cases D
  ·rename_i hb;have e := C3 D;subst e;rw [whileB_take X, if_neg (by rw [numBad_take v E X (by simpa using hb)]; simp), addM_take X]; exact D
 ·unfold symM at D ⊢
  split at D
  ·rename_i y hy;have e := C3 D;have f := (hasPre_iff _ _).1 (List.find?_some hy)
   have I : symsL.find? (hasPre ((t.take p).drop a)) = some y := by
    refine find_same hy ((hasPre_iff _ _).2 ?_) fun z c => (hasPre_iff _ _).2 ?_
    ·rw [List.drop_take];exact List.prefix_of_prefix_length_le f (List.take_prefix _ _) (by have := f.length_le; simp at this ⊢; omega) |> fun h => h
    ·have := (hasPre_iff _ _).1 c;rw [List.drop_take] at this;exact this.trans (List.take_prefix _ _)
   rw [I];simp only;rw [addM_take U]; exact D
  ·cases D
 ·cases D
theorem lexM_ok {t : LU} {m : List Tok} (h : lexM t = .ok m) : t.length ≤ 6000 ∧ Reach1 t 0 [] t.length m := by
 have M : t.length ≤ 6000 := by
  unfold lexM at h
  split at h
  ·cases h
  ·omega
 refine ⟨M, ?_⟩;rw [lexM_of M] at h;rcases reach_of_scan (t := t) t.length 0 [] U U with ⟨y, X, W⟩ | ⟨e, p, g, X, _⟩
 ·rw [X] at h; cases h; exact W
 ·rw [X] at h; cases h
theorem drop_sh (v u : LU) (a : Nat) : (v ++ u).drop (v.length + a) = u.drop a := by
 rw [List.drop_append]; simp
theorem whileB_sh {q : UInt8 → Bool} (v u : LU) (a : Nat) : Ay q (v ++ u) (v.length + a) = v.length + Ay q u a := by
 unfold Ay; rw [drop_sh]; omega
theorem take_sh (v u : LU) (a n : Nat) : ((v ++ u).take (v.length + n)).drop (v.length + a) = (u.take n).drop a := by
 rw [List.take_append];rw [List.take_of_length_le U, show v.length + n - v.length = n by omega, drop_sh]
theorem getD_sh (v u : LU) (a : Nat) : (v ++ u).getD (v.length + a) 0 = u.getD a 0 := by
 simp [List.getD_eq_getElem?_getD, List.getElem?_append_right]
theorem numBad_sh (v u : LU) (a : Nat) : Bc (v ++ u) (v.length + a) = Bc u a := by
 unfold Bc;rw [whileB_sh, getD_sh, getD_sh];rw [show v.length + Ay A8 u a - (v.length + a) = Ay A8 u a - a by omega];have e : decide (v.length + Ay A8 u a < (v ++ u).length) = decide (Ay A8 u a < u.length) := by simp
 rw [e]
end
section
variable {mk : Prop} [MK mk]
end
section
variable {mk : Prop} [MK mk]
end
section
variable {mk : Prop} [MK mk]
end
section
variable {mk : Prop} [MK mk]
theorem addM_un {v u : LU} {a n : Nat} {m : List Tok} {x : Tok} {k : Int} (h : addM (v ++ u) v.length m k (v.length + n) = .ok (a, m ++ [x])) :
  addM u 0 [] k n = .ok (a - v.length, [⟨x.kind, x.text, 0⟩]) := by
 have e := C3 h;obtain ⟨d, b⟩ := addM_le h;subst e;have := List.append_cancel_left d;simp at this;subst this;unfold addM;have := take_sh v u 0 n;simp at this;simp [this]
theorem step_un {v u : LU} {n : Nat} {m : List Tok} {x : Tok} (h : CA (v ++ u) v.length m = .ok (n, m ++ [x])) :
  kindB (u.getD 0 0) ≠ some 1 ∧ CA u 0 [] = .ok (n - v.length, [⟨x.kind, x.text, 0⟩]) := by
 unfold CA at h ⊢;have z := getD_sh v u 0;simp only [Nat.add_zero] at z;rw [z] at h
 split at h
 ·simp [blankM] at h
 ·simp [commM] at h
 ·rename_i hk;rw [hk];refine ⟨by simp, ?_⟩;unfold nameM at h ⊢;have a := whileB_sh (q := inName) v u 1
  split at h
  ·cases h
  ·rename_i hn;rw [a] at h hn;rw [if_neg (by simp only [Nat.zero_add]; omega)];exact addM_un h
 ·rename_i hk;simp only [hk];refine ⟨by simp, ?_⟩;unfold numM at h ⊢;have a := whileB_sh (q := A8) v u 0;have S := numBad_sh v u 0;simp only [Nat.add_zero] at a S;rw [S, a] at h
  split at h
  ·cases h
  ·rename_i hn;rw [if_neg hn];exact addM_un h
 ·rename_i k h0 h1 h2 h3 hk;rw [hk];refine ⟨fun e => h1 (Option.some.inj e), ?_⟩;unfold symM at h ⊢;have C := drop_sh v u 0;simp only [Nat.add_zero, List.drop_zero] at C;rw [C] at h
  split at h
  ·rename_i y hy;rw [List.drop_zero, hy];simp only [Nat.zero_add];exact addM_un h
  ·cases h
 ·cases h
structure Alone (k : Int) (y : LU) : Prop where
 pos : 1 ≤ y.length
 kind : kindB (y.getD 0 0) ≠ some 1
 step : CA y 0 [] = .ok (y.length, [⟨k, y, 0⟩])
theorem Reach1.alone {t : LU} {a b : Nat} {m c : List Tok} (h : Reach1 t a m b c) (S : b ≤ t.length) (G : ∀ x ∈ m, Alone x.kind x.text) : ∀ x ∈ c, Alone x.kind x.text := by
 induction h with
 | refl => exact G
 | step h hs hr ih =>
  rename_i a a1 b m ts1 c;refine ih S ?_;have s := step_on h hs;have X := step_le h hs;rcases step_shape hs with rfl | ⟨k, rfl⟩
  ·exact G
  ·intro x V;rcases List.mem_append.1 V with V | V
   ·exact G x V
   ·simp at V;subst V;have g := step_take (p := a1) X h hs (Nat.le_refl _);have q : (t.take a).length = a := by simp; omega
    have d : t.take a1 = t.take a ++ (t.take a1).drop a := by
     have : t.take a = (t.take a1).take a := by rw [List.take_take, Nat.min_eq_left U]
     rw [this, List.take_append_drop]
    generalize K : (t.take a1).drop a = y at d g ⊢;have v : y.length = a1 - a := by rw [← K]; simp; omega
    rw [d] at g;have f : CA (t.take a ++ y) (t.take a).length m = .ok (a1, m ++ [⟨k, y, a⟩]) := by rw [q]; exact g
    obtain ⟨r, e⟩ := step_un f;rw [q, ← v] at e;exact ⟨by simp only; omega, r, e⟩
def bare (x : Tok) : Int × LU := (x.kind, x.text)
structure Opr where
 op : Int
 indexed : Int
 val : Int
deriving DecidableEq
inductive NT where
 | formula | orN | orL | andN | andL | untilN | unary | primary | req | line | lines | part | parts | signal | sigs | spec | edit
abbrev NT.T : NT → Type
 | .formula | .orN | .andN | .untilN | .unary | .primary => Fml
 | .orL | .andL => LF
 | .req | .line => Rqm
 | .lines | .part => List Rqm
 | .parts => List (List Rqm)
 | .signal => Sgn
 | .sigs => List Sgn
 | .spec => Spc
 | .edit => Edt
abbrev BT := Int × LU
inductive G (α : Type) : Type where
 | ret (a : α)
 | fail
 | look (k : Option BT → G α)
 | next (g : G α)
 | call (nt : NT) (k : nt.T → G α)
def G.bind {α β : Type} : G α → (α → G β) → G β
 | .ret a, f => f a
 | .fail, _ => .fail
 | .look k, f => .look fun o => (k o).bind f
 | .next g, f => .next (g.bind f)
 | .call nt k, f => .call nt fun v => (k v).bind f
abbrev Ans (α : Type) := Except (List Tok) (α × List Tok)
def evG (u : (b : NT) → List Tok → Option (Ans b.T)) {α : Type} : G α → List Tok → Option (Ans α)
 | .ret a, l => some (.ok (a, l))
 | .fail, l => some (.error l)
 | .look k, l => evG u (k (l.head?.map bare)) l
 | .next g, l => evG u g l.tail
 | .call b k, l => match u b l with
  | none => none
  | some (.error e) => some (.error e)
  | some (.ok (v, l')) => evG u (k v) l'
def Cw (s : LU) : Option BT → Bool
 | some x => !decide (x.1 = 2) && decide (x.2 = s)
 | none => false
def BR (s : LU) : G Bool := .look fun o => if Cw s o = true then .next (.ret true) else .ret false
def Cz (s : LU) : G Unit := .look fun o => if Cw s o = true then .next (.ret ()) else .fail
def nameG : G (LU) := .look fun o => match o with
 | some x => if decide (x.1 = 1) && CJ x.2 then .next (.ret x.2) else .fail
 | none => .fail
def numOf (s : LU) : Int := s.foldl (fun n c => 10 * n + ((c.toNat : Int) - 48)) 0
def numberG : G Int := .look fun o => match o with
 | some x => if decide (x.1 = 2) then .next (.ret (numOf x.2)) else .fail
 | none => .fail
def prefixT : List (LU × Opr) := [([33], ⟨4, 0, 0⟩), ([88], ⟨8, 0, 0⟩), ([89], ⟨15, 0, 0⟩), ([90], ⟨15, 0, 1⟩), ([79], ⟨18, 0, 0⟩), ([72], ⟨19, 0, 0⟩), ([70], ⟨11, 13, 0⟩), ([71], ⟨12, 14, 0⟩)]
def infixT : List (LU × Opr) := [([85], ⟨9, 0, 0⟩), ([82], ⟨10, 0, 0⟩), ([83], ⟨16, 16, 0⟩), ([84], ⟨17, 17, 1⟩)]
def takeG (W : List (LU × Opr)) : G (Option Opr) := .look fun o => match o with
 | some x => match W.lookup x.2 with
  | some p => .next (.ret (some p))
  | none => .ret none
 | none => .ret none
def indexG (o : Opr) : G (Option Int) := if o.indexed = 0 then .ret none else (BR [91]).bind fun b =>
 if b then numberG.bind fun n => (Cz [93]).bind fun _ => .ret (some n) else .ret none
def sees2 (s t : LU) : G Bool := .look fun o => .ret (Cw s o || Cw t o)
def body : (v : NT) → G v.T
 | .formula => .call .orN fun a => (BR [45, 62]).bind fun b => if b then .call .formula fun c => .ret ⟨7, [], 0, 0, [a, c]⟩ else .ret a
 | .orN => .call .andN fun a => .call .orL fun l => .ret (nodeF 6 (a :: l))
 | .orL => (BR [124]).bind fun b => if b then .call .andN fun a => .call .orL fun l => .ret (a :: l) else .ret []
 | .andN => .call .untilN fun a => .call .andL fun l => .ret (nodeF 5 (a :: l))
 | .andL => (BR [38]).bind fun b => if b then .call .untilN fun a => .call .andL fun l => .ret (a :: l) else .ret []
 | .untilN => .call .unary fun a => (takeG infixT).bind fun
  | none => .ret a
  | some o => (indexG o).bind fun n => .call .untilN fun c => .ret ⟨o.op, [], n.getD o.val, 0, [a, c]⟩
 | .unary => (takeG prefixT).bind fun
  | none => .call .primary .ret
  | some o => (indexG o).bind fun n => .call .unary fun a => .ret (match n with
   | some n => ⟨o.indexed, [], o.val, n, [a]⟩
   | none => ⟨o.op, [], o.val, 0, [a]⟩)
 | .primary => (BR [116, 114, 117, 101]).bind fun b => if b then .ret ⟨1, [], 0, 0, []⟩ else
  (BR [102, 97, 108, 115, 101]).bind fun b => if b then .ret ⟨2, [], 0, 0, []⟩ else
  (BR [40]).bind fun b => if b then .call .formula fun f => (Cz [41]).bind fun _ => .ret f else
  nameG.bind fun s => (BR [61]).bind fun b => if b then numberG.bind fun n => .ret (isF s n) else
  (BR [33, 61]).bind fun b => if b then numberG.bind fun n => .ret (notF (isF s n)) else .ret (isF s 1)
 | .req => (BR [97, 115, 115, 117, 109, 101]).bind fun b => (if b then .ret 1 else (Cz [103, 117, 97, 114, 97, 110, 116, 101, 101]).bind fun _ => .ret 2).bind fun k =>
  nameG.bind fun s => (Cz [58]).bind fun _ => .call .formula fun f => .ret ⟨[], s, k, f⟩
 | .line => .call .req fun r => (Cz [59]).bind fun _ => .ret r
 | .lines => (sees2 [97, 115, 115, 117, 109, 101] [103, 117, 97, 114, 97, 110, 116, 101, 101]).bind fun b => if b then .call .line fun r => .call .lines fun l => .ret (r :: l) else .ret []
 | .part => (Cz [112, 97, 114, 116]).bind fun _ => nameG.bind fun s => (Cz [123]).bind fun _ => .call .lines fun l => (Cz [125]).bind fun _ => .ret (l.map fun r => ⟨s, r.name, r.kind, r.formula⟩)
 | .parts => (sees2 [112, 97, 114, 116] [112, 97, 114, 116]).bind fun b => if b then .call .part fun l => .call .parts fun m => .ret (l :: m) else .ret []
 | .signal => (BR [105, 110, 112, 117, 116]).bind fun i => (if i then .ret () else Cz [111, 117, 116, 112, 117, 116]).bind fun _ => nameG.bind fun s =>
  ((BR [58]).bind fun b => if b then numberG else .ret 2).bind fun n => (Cz [59]).bind fun _ => .ret ⟨s, i, n⟩
 | .sigs => (sees2 [105, 110, 112, 117, 116] [111, 117, 116, 112, 117, 116]).bind fun b => if b then .call .signal fun x => .call .sigs fun l => .ret (x :: l) else .ret []
 | .spec => .call .sigs fun s => .call .parts fun r => .ret ⟨s, r.flatten⟩
 | .edit => (BR [100, 114, 111, 112]).bind fun b => if b then nameG.bind fun s => .ret ⟨2, ⟨[], s, 0, Ae⟩⟩ else
  (BR [97, 100, 100]).bind fun b => (if b then .ret 1 else (Cz [114, 101, 112, 108, 97, 99, 101]).bind fun _ => .ret 3).bind fun k =>
  nameG.bind fun p => .call .req fun r => .ret ⟨k, ⟨p, r.name, r.kind, r.formula⟩⟩
def whole (a : NT) : G a.T := .call a fun v => .look fun o => match o with
 | none => .ret v
 | some _ => .fail
def evN : Nat → (v : NT) → List Tok → Option (Ans v.T)
 | 0, _, _ => none
 | n + 1, v, l => evG (evN n) (body v) l
def Run {α : Type} (p : G α) (l : List Tok) (r : Ans α) : Prop := ∃ n, evG (evN n) p l = some r
def RunN (v : NT) (l : List Tok) (r : Ans v.T) : Prop := Run (body v) l r
theorem evG_mono {f g : (v : NT) → List Tok → Option (Ans v.T)} (h : ∀ v l r, f v l = some r → g v l = some r) {α : Type} : ∀ (p : G α) (l : List Tok) (r : Ans α), evG f p l = some r → evG g p l = some r
 | .ret a, l, r, hr => hr
 | .fail, l, r, hr => hr
 | .look k, l, r, hr => by simp only [evG] at hr ⊢; exact evG_mono h (k _) l r hr
 | .next q, l, r, hr => by simp only [evG] at hr ⊢; exact evG_mono h q _ r hr
 | .call v k, l, r, hr => by
  simp only [evG] at hr ⊢;cases hf : f v l with
  | none => rw [hf] at hr; cases hr
  | some x =>
   rw [hf] at hr;rw [h v l x hf];cases x with
   | error e => exact hr
   | ok y => exact evG_mono h (k y.1) y.2 r hr
theorem evN_step : ∀ (n : Nat) (v : NT) (l : List Tok) (r : Ans v.T), evN n v l = some r → evN (n + 1) v l = some r
 | 0, v, l, r, h => by cases h
 | n + 1, v, l, r, h => by
  unfold evN at h ⊢;exact evG_mono (fun v l r h => evN_step n v l r h) _ _ _ h
theorem evN_mono {n m : Nat} (h : n ≤ m) (v : NT) (l : List Tok) (r : Ans v.T) (B : evN n v l = some r) : evN m v l = some r := by
 induction h with
 | refl => exact B
 | step _ ih => exact evN_step _ _ _ _ ih
theorem ev_mono {n m : Nat} (h : n ≤ m) {α : Type} {p : G α} {l : List Tok} {r : Ans α} (B : evG (evN n) p l = some r) : evG (evN m) p l = some r :=
 evG_mono (fun v l r t => evN_mono h v l r t) p l r B
theorem Run.det {α : Type} {p : G α} {l : List Tok} {r e : Ans α} (h : Run p l r) (t : Run p l e) : r = e := by
 obtain ⟨n, a⟩ := h;obtain ⟨m, A⟩ := t;have X := ev_mono (Nat.le_max_left n m) a;have W := ev_mono (Nat.le_max_right n m) A;rw [X] at W; exact Option.some.inj W
theorem Run.ret {α : Type} (a : α) (l : List Tok) : Run (.ret a) l (.ok (a, l)) := ⟨0, rfl⟩
theorem Run.fail {α : Type} (l : List Tok) : Run (.fail : G α) l (.error l) := ⟨0, rfl⟩
theorem Run.look {α : Type} {k : Option BT → G α} {l : List Tok} {r : Ans α} (h : Run (k (l.head?.map bare)) l r) : Run (.look k) l r := h
theorem Run.next {α : Type} {g : G α} {l : List Tok} {r : Ans α} (h : Run g l.tail r) : Run (.next g) l r := h
theorem Run.call {α : Type} {a : NT} {k : a.T → G α} {l A : List Tok} {v : a.T} {r : Ans α} (h : RunN a l (.ok (v, A))) (t : Run (k v) A r) : Run (.call a k) l r := by
 obtain ⟨n, c⟩ := h;obtain ⟨m, b⟩ := t;refine ⟨max n m + 1, ?_⟩;have X : evN (max n m + 1) a l = some (.ok (v, A)) := ev_mono (Nat.le_max_left n m) c;simp only [evG, X];exact ev_mono U b
theorem Run.callE {α : Type} {v : NT} {k : v.T → G α} {l e : List Tok} (h : RunN v l (.error e)) : Run (.call v k) l (.error e) := by
 obtain ⟨n, a⟩ := h;refine ⟨n + 1, ?_⟩;have X : evN (n + 1) v l = some (.error e) := a;simp only [evG, X]
theorem Run.call_inv {α : Type} {b : NT} {k : b.T → G α} {l : List Tok} {r : Ans α} (h : Run (.call b k) l r) : (∃ v A, RunN b l (.ok (v, A)) ∧ Run (k v) A r) ∨ ∃ e, RunN b l (.error e) ∧ r = .error e := by
 obtain ⟨n, a⟩ := h;simp only [evG] at a;cases n with
 | zero => simp [evN] at a
 | succ n =>
  cases hf : evN (n + 1) b l with
  | none => rw [hf] at a; cases a
  | some x =>
   rw [hf] at a;have t : evG (evN n) (body b) l = some x := hf;cases x with
   | error e => cases a; exact .inr ⟨e, ⟨n, t⟩, rfl⟩
   | ok y => exact .inl ⟨y.1, y.2, ⟨n, t⟩, ⟨n + 1, a⟩⟩
theorem evG_bind (f : (v : NT) → List Tok → Option (Ans v.T)) {α β : Type} : ∀ (p : G α) (q : α → G β) (l : List Tok), evG f (p.bind q) l = match evG f p l with
  | none => none
  | some (.error e) => some (.error e)
  | some (.ok (a, l')) => evG f (q a) l'
 | .ret a, q, l => rfl
 | .fail, q, l => rfl
 | .look k, q, l => by simp only [G.bind, evG]; exact evG_bind f (k _) q l
 | .next g, q, l => by simp only [G.bind, evG]; exact evG_bind f g q _
 | .call v k, q, l => by
  simp only [G.bind, evG];cases f v l with
  | none => rfl
  | some x =>
   cases x with
   | error e => rfl
   | ok y => exact evG_bind f (k y.1) q y.2
theorem Run.bind {α β : Type} {p : G α} {q : α → G β} {l A : List Tok} {a : α} {r : Ans β} (h : Run p l (.ok (a, A))) (t : Run (q a) A r) : Run (p.bind q) l r := by
 obtain ⟨n, c⟩ := h;obtain ⟨m, b⟩ := t;refine ⟨max n m, ?_⟩;rw [evG_bind, ev_mono (Nat.le_max_left n m) c];exact ev_mono (Nat.le_max_right n m) b
theorem Run.bindE {α β : Type} {p : G α} {q : α → G β} {l e : List Tok} (h : Run p l (.error e)) : Run (p.bind q) l (.error e) := by
 obtain ⟨n, a⟩ := h;exact ⟨n, by rw [evG_bind, a]⟩
theorem Run.bind_inv {α β : Type} {p : G α} {q : α → G β} {l : List Tok} {r : Ans β} (h : Run (p.bind q) l r) : (∃ a A, Run p l (.ok (a, A)) ∧ Run (q a) A r) ∨ ∃ e, Run p l (.error e) ∧ r = .error e := by
 obtain ⟨n, b⟩ := h;rw [evG_bind] at b;cases hf : evG (evN n) p l with
 | none => rw [hf] at b; cases b
 | some x =>
  rw [hf] at b;cases x with
  | error e => cases b; exact .inr ⟨e, ⟨n, hf⟩, rfl⟩
  | ok y => exact .inl ⟨y.1, y.2, ⟨n, hf⟩, ⟨n, b⟩⟩
def Ans.rem {α : Type} : Ans α → List Tok
 | .ok y => y.2
 | .error e => e
theorem evG_suffix {f : (v : NT) → List Tok → Option (Ans v.T)} (I : ∀ v l r, f v l = some r → Ans.rem r <:+ l) {α : Type} : ∀ (p : G α) (l : List Tok) (r : Ans α), evG f p l = some r → Ans.rem r <:+ l
 | .ret a, l, r, h => by cases h; exact List.suffix_rfl
 | .fail, l, r, h => by cases h; exact List.suffix_rfl
 | .look k, l, r, h => evG_suffix I (k _) l r h
 | .next g, l, r, h => (evG_suffix I g l.tail r h).trans (List.tail_suffix l)
 | .call v k, l, r, h => by
  simp only [evG] at h;cases hn : f v l with
  | none => rw [hn] at h; cases h
  | some x =>
   rw [hn] at h;have X := I v l x hn;cases x with
   | error e => cases h; exact X
   | ok y => exact (evG_suffix I (k y.1) y.2 r h).trans X
theorem evN_suffix : ∀ (n : Nat) (v : NT) (l : List Tok) (r : Ans v.T), evN n v l = some r → Ans.rem r <:+ l
 | 0, _, _, _, h => by cases h
 | n + 1, v, l, r, h => evG_suffix (evN_suffix n) (body v) l r h
theorem Run.suffix {α : Type} {p : G α} {l : List Tok} {r : Ans α} (h : Run p l r) : Ans.rem r <:+ l := by
 obtain ⟨n, a⟩ := h; exact evG_suffix (evN_suffix n) p l r a
structure Env where
 lo : Nat
 s : Nat
 n : Nat
 mp : Nat
 mi : Nat
abbrev inE (E : Env) (b : Nat) : Prop := E.lo ≤ b ∧ b < E.s
def oprV (o : Opr) : Value := .agg #[iV o.op, iV o.indexed, iV o.val]
def tabV (t : List (LU × Opr)) : List (LU × Value) := t.map fun p => (p.1, oprV p.2)
def TokWf (x : Tok) : Prop := x.kind = 2 → 1 ≤ x.text.length ∧ x.text.length ≤ 4 ∧ ∀ c ∈ x.text, A8 c = true
structure PSt (w : World) (E : Env) (ts : List Tok) : Prop where
 D : ∃ a c, Blk w E.s 168 [.slice a ts.length c, iV (E.n : Int), .map (some E.mp), .map (some E.mi)] ∧ Sl (inE E) w (.slice a ts.length c) ts.length (toksC ts)
 pre : SMap w E.mp (tabV prefixT)
 inf : SMap w E.mi (tabV infixT)
 lt : E.mp < E.s ∧ E.mi < E.s
 wf : ∀ x ∈ ts, TokWf x
 cnt : ts.length ≤ 2000
theorem PSt.E {X : List Nat} {w w' : World} {E : Env} {m : List Tok} (h : PSt w E m) (k : Keep X w w') (i : ∀ x ∈ X, E.s < x) : PSt w' E m := by
 obtain ⟨⟨a, c, d, W⟩, R, e, P, f, g⟩ := h;have G : ∀ b, b ≤ E.s → b ∉ X := fun b S V => by have := i b V; omega
 exact ⟨⟨a, c, d.E k (G _ (Nat.le_refl _)), W.E k fun b S => G b (by have := S.2; omega)⟩, R.E k (G _ U), e.E k (G _ U), P, f, g⟩
theorem PSt.ext {w w' : World} {E : Env} {m : List Tok} (h : PSt w E m) (k : Ext w w') : PSt w' E m := h.E k fun x V => by cases V
theorem PSt.slt {w : World} {E : Env} {m : List Tok} (h : PSt w E m) : E.s < w.heap.size := by obtain ⟨_, _, X, _⟩ := h.D; exact X.lt
abbrev failP (e : Int) (p : Nat) : List PanicEntry := [{ v := .iface 163 (.agg #[iV e, iV (p : Int)]), recovered := false }]
def errV (n : Nat) : List Tok → List PanicEntry
 | [] => failP 51 n
 | x :: _ => failP 50 x.loc
def PDo {α : Type} (E : Env) (F : FuncId) (args : LV) (w : World) (p : G α) (m : List Tok) (c : World → Value → α → Prop) : Prop :=
 FnP Zp F args w (fun v Z => Keep [E.s] w Z ∧ ∃ a b, Run p m (.ok (a, b)) ∧ PSt Z E b ∧ c Z v a) (fun q Z => Keep [E.s] w Z ∧ ∃ l, Run p m (.error l) ∧ q = errV E.n l)
theorem PSt.tok {w : World} {E : Env} {x : Tok} {l : List Tok} {a : Option Addr} {c : Nat} (h : Sl (inE E) w (.slice a (x :: l).length c) (x :: l).length (toksC (x :: l))) :
  ∃ b o, a = some ⟨b, o, none⟩ ∧ 1 ≤ c ∧ (w.cell? ⟨b, o + 0 * 3 + 0, none⟩ = some (iV x.kind) ∧ w.cell? ⟨b, o + 0 * 3 + 1, none⟩ = some (AI x.text) ∧ w.cell? ⟨b, o + 0 * 3 + 2, none⟩ = some (iV (x.loc : Int))) ∧
   Sl (inE E) w (.slice (adv c 1 3 a) l.length (c - 1)) l.length (toksC l) := by
 obtain ⟨f, g, q, X, W, R, d⟩ := h;cases q;obtain ⟨b, o, rfl, S, T⟩ := d.resolve_left O;have M : (x :: l).length = l.length + 1 := rfl;have e : toksC (x :: l) = tokC x ++ toksC l := by simp [toksC]
 refine ⟨b, o, rfl, by omega, ⟨T 0 _ rfl, T 1 _ rfl, T 2 _ rfl⟩, _, _, rfl, by omega, by omega, ?_, ?_⟩
 ·intro H;unfold adv at H
  split at H
  ·cases H
  ·simp at H
 ·by_cases s : l.length = 0
  ·exact .inl s
  ·refine .inr ⟨b, o + 3, ?_, S, ?_⟩
   ·unfold adv;rw [if_neg U];rfl
   ·intro i u r;have := T (3 + i) u (by rw [e, List.getElem?_append_right (by simp [tokC])]; simpa [tokC] using r);rw [Nat.add_assoc]; exact this
theorem PSt.taken {w w' : World} {E : Env} {x : Tok} {l : List Tok} {a : Option Addr} {c : Nat} (h : PSt w E (x :: l)) (D : Sl (inE E) w (.slice (adv c 1 3 a) l.length (c - 1)) l.length (toksC l))
  (p : Put w w' E.s 168 [.slice (adv c 1 3 a) l.length (c - 1), iV (E.n : Int), .map (some E.mp), .map (some E.mi)]) : PSt w' E l := by
 obtain ⟨_, R, d, P, W, m⟩ := h;have r := P.1;have e := P.2;refine ⟨⟨_, _, p.D, D.E p.E fun b S => by have := S.2; simp; omega⟩, R.E p.E Dl, d.E p.E Dl, P, fun y K => W y (by simp [K]), by simp at m; omega⟩
theorem wrong_ok (E : Env) (w : World) (m : List Tok) (h : PSt w E m) {R : Value → World → Prop} : FnP Zp 105 [pt E.s] w R (fun q w' => w' = w ∧ q = errV E.n m) := by
 obtain ⟨a, c, S, D⟩ := h.D;refine A5 Tryz.func105 rfl Tryz.ntmps105 nlr Dk ?_;repeat refine nx rfl ?_
 cases m with
 | nil =>
  have M : ([] : List Tok).length = 0 := rfl;(refine AJ (Ag rfl (AK rfl (AF rfl (AM rfl (Blk.cell Do Dn) ?_)))) <;> refine CD rfl (W_eqlT rfl rfl U ?_))
  repeat refine nx rfl ?_
  (refine AJ (Ag rfl (AK rfl (AF rfl (AM rfl (Blk.cell Do Dn) ?_)))) <;> refine Bo Dn Dn ?_ <;> refine DO (DX rfl ?_))
  repeat refine nx rfl ?_
  exact Ai ⟨rfl, rfl⟩
 | cons x l =>
  have M : (x :: l).length = l.length + 1 := rfl;obtain ⟨b, o, rfl, _, ⟨G, B, p⟩, _⟩ := PSt.tok D;(refine AJ (Ag rfl (AK rfl (AF rfl (AM rfl (Blk.cell Do Dn) ?_)))) <;> refine CD rfl (W_eqlF rfl rfl U ?_))
  repeat first | refine nx rfl ?_ | refine nf rfl ?_
  (refine AJ (Ag rfl (AK rfl (AF rfl (AM rfl (Blk.cell Do Dn) ?_)))) <;> refine Cl rfl rfl U U (AF rfl (AM rfl Do ?_)) <;> refine Bo Dn Dn ?_ <;> refine DO (DX rfl ?_))
  repeat refine nx rfl ?_
  exact Ai ⟨rfl, rfl⟩
theorem sees_ok (E : Env) (w : World) (m : List Tok) (t : LU) (h : PSt w E m) : Fn Zp 107 [pt E.s, AI t] w (fun v w' => v = .bool (Cw t (m.head?.map bare)) ∧ w' = w) := by
 obtain ⟨a, c, S, D⟩ := h.D;refine AG Tryz.func107 rfl Tryz.ntmps107 ?_;repeat refine nx rfl ?_
 refine AJ (Ac (AP rfl ?_));repeat refine nx rfl ?_
 cases m with
 | nil =>
  have M : ([] : List Tok).length = 0 := rfl;(refine AJ (Ag rfl (AK rfl (AF rfl (AM rfl (Blk.cell Do Dn) ?_)))) <;> refine CD rfl (W_gtrF rfl rfl U (AP rfl (Ax rfl (Ax rfl (Ax rfl (Ax rfl (Ax rfl (Ax rfl (Ax rfl (Ax rfl (Au rfl (AP rfl (AP rfl (Ax rfl (Ax rfl (Ax rfl (Ax rfl (Ax rfl (Ax rfl (Ax rfl (Ax rfl (Ax rfl (Au rfl (AP rfl (Ac (AP rfl ?_)))))))))))))))))))))))))))
  repeat refine nx rfl ?_
  exact AA rfl ⟨rfl, rfl⟩
 | cons x l =>
  have M : (x :: l).length = l.length + 1 := rfl;obtain ⟨b, o, rfl, _, ⟨G, B, p⟩, _⟩ := PSt.tok D;by_cases P : x.kind = 2
  ·(refine AJ (Ag rfl (AK rfl (AF rfl (AM rfl (Blk.cell Do Dn) ?_)))) <;> refine CD rfl (W_gtrT rfl rfl U (AP rfl (AS rfl (Ag rfl (AS rfl (AK rfl (AS rfl (AF rfl (AS rfl (AM rfl (Blk.cell Do Dn) ?_)))))))))) <;> refine AS rfl (Cl rfl rfl U U (AS rfl (AF rfl (AS rfl (AM rfl Do ?_))))) <;> refine AS rfl (W_neqF rfl rfl U (A4 rfl (AP rfl (AP rfl (Ax rfl (Ax rfl (Ax rfl (Ax rfl (Ax rfl (Ax rfl (Ax rfl (Ax rfl (Ax rfl (Au rfl (AP rfl (Ac (AP rfl ?_))))))))))))))))))
   repeat refine nx rfl ?_
   exact AA rfl ⟨by simp [upd, Nat.beq, Cw, bare, P], rfl⟩
  ·(refine AJ (Ag rfl (AK rfl (AF rfl (AM rfl (Blk.cell Do Dn) ?_)))) <;> refine CD rfl (W_gtrT rfl rfl U (AP rfl (AS rfl (Ag rfl (AS rfl (AK rfl (AS rfl (AF rfl (AS rfl (AM rfl (Blk.cell Do Dn) ?_)))))))))) <;> refine AS rfl (Cl rfl rfl U U (AS rfl (AF rfl (AS rfl (AM rfl Do ?_))))) <;> refine AS rfl (W_neqT rfl rfl U (A4 rfl (AP rfl (AP rfl (AS rfl (Ag rfl (AS rfl (AK rfl (AS rfl (AF rfl (AS rfl (AM rfl (Blk.cell Do Dn) ?_)))))))))))) <;> refine AS rfl (Cl rfl rfl U U (AS rfl (AF rfl (AS rfl (AM rfl Do ?_))))) <;> refine AS rfl (CK rfl ?_) <;> (refine AS rfl ?_; refine W_seql rfl rfl (fun T => ?_) (fun T => ?_)) <;> refine A4 rfl (AP rfl (Ac (AP rfl ?_))))
   ·refine go ?_;exact AA rfl ⟨by simp_all [upd, Nat.beq, Cw, bare], rfl⟩
   ·refine go ?_;exact AA rfl ⟨by simp_all [upd, Nat.beq, Cw, bare], rfl⟩
def keyC : LV := keysL.map AI
def KY (w : World) : Prop := Cells w 0 0 keyC
def okAt (i : Nat) (c : UInt8) : Bool := BZ c || (decide (0 < i) && (A8 c || decide (c.toNat = 95)))
def shapeB (s : LU) : Bool := BZ (s.getD 0 0) && s.all restB
theorem shapeB_iff (s : LU) (h : 1 ≤ s.length) : shapeB s = true ↔ ∀ (i : Nat) (c : UInt8), s[i]? = some c → okAt i c = true := by
 match s, h with
 | d :: s, _ =>
  simp only [shapeB, List.getD_eq_getElem?_getD, List.getElem?_cons_zero, Option.getD_some, Bool.and_eq_true, List.all_eq_true];constructor
  ·rintro ⟨X, W⟩ i c T;cases i with
   | zero => simp at T; subst T; simp [okAt, X]
   | succ i =>
    have := W c (List.mem_of_getElem? T);simp [restB] at this;simp [okAt];rcases this with (h | h) | h
    ·exact .inl h
    ·exact .inr (.inl h)
    ·exact .inr (.inr h)
  ·intro h;have a := h 0 d rfl;simp [okAt] at a;refine ⟨a, fun c T => ?_⟩;obtain ⟨i, F⟩ := List.getElem?_of_mem T;have := h i c F;simp only [okAt, restB, Bool.or_eq_true, Bool.and_eq_true, decide_eq_true_eq] at this ⊢;rcases this with h | ⟨_, h | h⟩
   ·exact .inl (.inl h)
   ·exact .inl (.inr h)
   ·exact .inr h
theorem DH (s : LU) : CJ s = (decide (1 ≤ s.length) && decide (s.length ≤ 12) && shapeB s && !decide (s ∈ keysL)) := by
 unfold CJ shapeB;cases decide (1 ≤ s.length) <;> cases decide (s.length ≤ 12) <;> cases BZ (s.getD 0 0) <;> cases s.all restB <;> rfl
theorem DA (s : LU) (w : World) (D : KY w) : Fn Zp 89 [AI s] w fun v w' => v = .bool (CJ s) ∧ w' = w := by
 refine AG Tryz.func89 rfl Tryz.ntmps89 ?_;repeat refine nx rfl ?_
 refine AJ (Ac (AP rfl ?_));repeat refine nx rfl ?_
 by_cases X : s.length < 1
 ·refine AJ (CK rfl (W_slen rfl (W_lssT rfl rfl U (AP rfl (Ax rfl (Ax rfl (Ax rfl (A4 rfl (AP rfl ?_)))))))));repeat refine nx rfl ?_
  refine AJ (Ac (AP rfl ?_));repeat refine nx rfl ?_
  exact AA rfl ⟨by rw [DH, decide_eq_false (show ¬ 1 ≤ s.length by omega)]; rfl, rfl⟩
 by_cases z : 12 < s.length
 ·refine AJ (CK rfl (W_slen rfl (W_lssF rfl rfl U (AP rfl (AS rfl (CK rfl (AS rfl (W_slen rfl (AS rfl (W_gtrT rfl rfl U (Au rfl (AP rfl ?_))))))))))));repeat refine nx rfl ?_
  refine AJ (Ac (AP rfl ?_));repeat refine nx rfl ?_
  exact AA rfl ⟨by rw [DH, decide_eq_false (show ¬ s.length ≤ 12 by omega)]; simp [upd, Nat.beq], rfl⟩
 refine AJ (CK rfl (W_slen rfl (W_lssF rfl rfl U (AP rfl (AS rfl (CK rfl (AS rfl (W_slen rfl (AS rfl (W_gtrF rfl rfl U (Au rfl (AP rfl ?_))))))))))));repeat first | refine nx rfl ?_ | refine nf rfl ?_
 refine AJ (Ac (AP rfl ?_));repeat refine nx rfl ?_
 refine AJ (CK rfl (W_slen rfl (Af rfl ?_)));repeat refine nx rfl ?_
 refine Ah (α := Nat) (fun k => [(0, AI s), (3, .bool true), (17, iV (s.length : Int)), (18, iV (k : Int))]) (fun k Q => k ≤ s.length ∧ (∀ (i : Nat) (c : UInt8), i < k → s[i]? = some c → okAt i c = true) ∧ Q = w) (fun k => s.length - k) 0 ⟨rfl, rfl, rfl, rfl, trivial⟩ ⟨by omega, fun i c F => by omega, rfl⟩ ?_;rintro k Q M ⟨P, f, rfl⟩;repeat refine nx rfl ?_
 by_cases g : k < s.length
 ·have h : s[k]? = some s[k] := List.getElem?_eq_getElem g;generalize s[k] = c at h
  have V : okAt k c = true → ∀ (i : Nat) (d : UInt8), i < k + 1 → s[i]? = some d → okAt i d = true := fun b i d F C => by
   by_cases x : i = k
   ·subst x; rw [h] at C; cases C; exact b
   ·exact f i d U C
  refine AJ (W_lssT rfl rfl U ?_);repeat refine nx rfl ?_
  refine AJ (Af rfl (Ac (Af rfl ?_)));repeat refine nx rfl ?_
  (refine AJ (CK rfl (Af rfl (W_sidx rfl rfl Do ?_))) <;> refine Ac (Af rfl ?_))
  repeat refine nx rfl ?_
  by_cases n : 97 ≤ c.toNat ∧ c.toNat ≤ 122
  ·have b : okAt k c = true := by simp [okAt, BZ, n.1, n.2]
   refine AJ (Af rfl (W_leqT rfl rfl U (AP rfl (AS rfl (Af rfl (AS rfl (W_leqT rfl rfl U (A4 rfl (AP rfl (Ac (AP rfl ?_)))))))))));repeat refine nx rfl ?_
   (refine AJ (W_add rfl rfl Du ?_) <;> refine Af rfl ?_)
   repeat refine nx rfl ?_
   refine ⟨k + 1, ⟨rfl, ⟨rfl, rfl, rfl, ?_, trivial⟩, ⟨by omega, V b, rfl⟩⟩, by omega⟩;show iV ((k : Int) + 1) = _;rw [Int.natCast_add]; rfl
  ·have q : BZ c = false := by simp [BZ]; omega
   by_cases B : 0 < k ∧ ((48 ≤ c.toNat ∧ c.toNat ≤ 57) ∨ c.toNat = 95)
   ·have b : okAt k c = true := by
     simp only [okAt, A8, Bool.or_eq_true, Bool.and_eq_true, decide_eq_true_eq];exact .inr B
    refine AJ (Af rfl (W_leqF rfl rfl U (AP rfl (Ax rfl (Ax rfl (Au rfl (AP rfl (Ac (AP rfl (AH ?_))))))))))
    all_goals
     repeat first | refine nx rfl ?_ | refine nf rfl ?_
     (refine AJ (Af rfl (W_gtrT rfl rfl U (AP rfl (AS rfl (Af rfl (AS rfl (W_leqT rfl rfl U (AS rfl (AP rfl (AS rfl (Af rfl ?_))))))))))) <;> (refine AS rfl ?_; (refine W_leq rfl rfl (fun T => ?_) (fun T => ?_) <;> try omega)) <;> refine AS rfl (A4 rfl (AP rfl (AS rfl (AP rfl ?_)))) <;> (first | refine Ax rfl ?_ | (refine AS rfl ?_; refine Af rfl ?_)) <;> (first | refine Ax rfl ?_ | (refine AS rfl ?_; refine W_eqlT rfl rfl U ?_)) <;> (refine AS rfl ?_; ((first | refine A4 rfl ?_ | refine Au rfl ?_); refine AP rfl ?_)) <;> refine A4 rfl (AP rfl (Ac (AP rfl (AH ?_)))))
     all_goals
      repeat refine nx rfl ?_
      (refine AJ (W_add rfl rfl Du ?_) <;> refine Af rfl ?_)
      repeat refine nx rfl ?_
      refine ⟨k + 1, ⟨rfl, ⟨rfl, rfl, rfl, ?_, trivial⟩, ⟨by omega, V b, rfl⟩⟩, by omega⟩;show iV ((k : Int) + 1) = _;rw [Int.natCast_add]; rfl
   ·have l : shapeB s = false := by
     cases hsb : shapeB s with
     | false => rfl
     | true =>
      have := (shapeB_iff s U).1 hsb k c h;simp only [okAt, q, A8, Bool.false_or, Bool.or_eq_true, Bool.and_eq_true, decide_eq_true_eq] at this;exact absurd this B
    (refine AJ (Af rfl ?_) <;> (refine W_leq rfl rfl (fun T => ?_) (fun T => ?_) <;> try omega) <;> refine AP rfl ?_ <;> (first | refine Ax rfl ?_ | (refine AS rfl ?_; refine Af rfl ?_)) <;> (first | refine Ax rfl ?_ | (refine AS rfl ?_; refine W_leqF rfl rfl U ?_)) <;> ((first | refine A4 rfl ?_ | refine Au rfl ?_); refine AP rfl ?_) <;> refine Ac (AP rfl (AH ?_)))
    all_goals
     repeat first | refine nx rfl ?_ | refine nf rfl ?_
     (refine AJ (Af rfl ?_) <;> (refine W_gtr rfl rfl (fun T => ?_) (fun T => ?_) <;> try omega) <;> refine AP rfl ?_ <;> (first | refine Ax rfl ?_ | (refine AS rfl ?_; refine Af rfl ?_)) <;> (first | refine Ax rfl ?_ | (refine AS rfl ?_; (refine W_leq rfl rfl (fun T => ?_) (fun T => ?_) <;> try omega))) <;> (first | refine Ax rfl ?_ | (refine AS rfl ?_; refine AP rfl ?_)) <;> (first | refine Ax rfl ?_ | (refine AS rfl ?_; refine Af rfl ?_)) <;> (first | refine Ax rfl ?_ | (refine AS rfl ?_; refine W_leqF rfl rfl U ?_)) <;> (first | refine Ax rfl ?_ | (refine AS rfl ?_; ((first | refine A4 rfl ?_ | refine Au rfl ?_); refine AP rfl ?_))) <;> (first | refine Ax rfl ?_ | (refine AS rfl ?_; refine AP rfl ?_)) <;> (first | refine Ax rfl ?_ | (refine AS rfl ?_; refine Af rfl ?_)) <;> (first | refine Ax rfl ?_ | (refine AS rfl ?_; refine W_eqlF rfl rfl U ?_)) <;> (first | refine Ax rfl ?_ | (refine AS rfl ?_; (refine Au rfl ?_; refine AP rfl ?_))) <;> ((first | refine A4 rfl ?_ | refine Au rfl ?_); refine AP rfl ?_) <;> refine Ac (AP rfl (AH ?_)))
     all_goals
      repeat first | refine nx rfl ?_ | refine nf rfl ?_
      refine AJ (Ac (AP rfl ?_));repeat refine nx rfl ?_
      refine AJ (AR (L := keyC) rfl rfl D ?_);refine Af rfl ?_;repeat refine nx rfl ?_
      refine Ah (α := Nat) (fun k => [(0, AI s), (3, .bool false), (47, .agg keyC.toArray), (48, iV (k : Int))]) (fun k W => k ≤ 10 ∧ s ∉ keysL.take k ∧ W = Q) (fun k => 10 - k) 0 ⟨rfl, rfl, rfl, rfl, trivial⟩ ⟨by omega, by simp, rfl⟩ ?_;rintro k r o ⟨P, G, rfl⟩;repeat refine nx rfl ?_
      by_cases g : k < 10
      ·obtain ⟨y, K⟩ : ∃ y, keysL[k]? = some y := ⟨_, List.getElem?_eq_getElem (by show k < 10; exact g)⟩;have m : keyC[k]? = some (AI y) := by unfold keyC; rw [List.getElem?_map, K]; rfl
       have p : keysL.take (k + 1) = keysL.take k ++ [y] := by rw [List.take_add_one, K]; rfl
       refine AJ (W_lssT rfl rfl U ?_);repeat refine nx rfl ?_
       refine AJ ?_;refine W_vidx1 (L := keyC) rfl rfl U m ?_;refine Ac (CK rfl ?_);repeat refine nx rfl ?_
       by_cases a : y = s
       ·exact Ef
       ·(refine AJ (CK rfl (CK rfl ?_)) <;> refine W_seql rfl rfl (fun T => ?_) (fun T => ?_) <;> refine AH ?_)
        case refine_1 => exact absurd Do a
        repeat first | refine nx rfl ?_ | refine nf rfl ?_
        (refine AJ (W_add rfl rfl Du ?_) <;> refine Af rfl ?_)
        repeat refine nx rfl ?_
        refine ⟨k + 1, ⟨rfl, ⟨rfl, rfl, rfl, ?_, trivial⟩, ⟨by omega, by rw [p]; simp [G]; exact fun e => a e.symm, rfl⟩⟩, by omega⟩;show iV ((k : Int) + 1) = _;rw [Int.natCast_add]; rfl
      ·exact Ed
 ·obtain rfl : k = s.length := by omega
  have l : shapeB s = true := (shapeB_iff s U).2 fun i c T => f i c (List.getElem?_eq_some_iff.1 T).1 T;refine AJ (W_lssF rfl rfl U ?_);repeat first | refine nx rfl ?_ | refine nf rfl ?_
  refine AJ (AR (L := keyC) rfl rfl D ?_);refine Af rfl ?_;repeat refine nx rfl ?_
  refine Ah (α := Nat) (fun k => [(0, AI s), (3, .bool true), (47, .agg keyC.toArray), (48, iV (k : Int))]) (fun k W => k ≤ 10 ∧ s ∉ keysL.take k ∧ W = Q) (fun k => 10 - k) 0 ⟨rfl, rfl, rfl, rfl, trivial⟩ ⟨by omega, by simp, rfl⟩ ?_;rintro k r o ⟨P, G, rfl⟩;repeat refine nx rfl ?_
  by_cases g : k < 10
  ·obtain ⟨y, K⟩ : ∃ y, keysL[k]? = some y := ⟨_, List.getElem?_eq_getElem (by show k < 10; exact g)⟩;have m : keyC[k]? = some (AI y) := by unfold keyC; rw [List.getElem?_map, K]; rfl
   have p : keysL.take (k + 1) = keysL.take k ++ [y] := by rw [List.take_add_one, K]; rfl
   refine AJ (W_lssT rfl rfl U ?_);repeat refine nx rfl ?_
   refine AJ ?_;refine W_vidx1 (L := keyC) rfl rfl U m ?_;refine Ac (CK rfl ?_);repeat refine nx rfl ?_
   by_cases a : y = s
   ·exact Ef
   ·(refine AJ (CK rfl (CK rfl ?_)) <;> refine W_seql rfl rfl (fun T => ?_) (fun T => ?_) <;> refine AH ?_)
    case refine_1 => exact absurd Do a
    repeat first | refine nx rfl ?_ | refine nf rfl ?_
    (refine AJ (W_add rfl rfl Du ?_) <;> refine Af rfl ?_)
    repeat refine nx rfl ?_
    refine ⟨k + 1, ⟨rfl, ⟨rfl, rfl, rfl, ?_, trivial⟩, ⟨by omega, by rw [p]; simp [G]; exact fun e => a e.symm, rfl⟩⟩, by omega⟩;show iV ((k : Int) + 1) = _;rw [Int.natCast_add]; rfl
  ·exact Ed
structure GK (w : World) : Prop where
 gv : GV w
 keys : Cells w 0 0 keyC
theorem GK.E {X : List Nat} {w w' : World} (h : GK w) (k : Keep X w w') (a : ∀ x ∈ X, 10 ≤ x) : GK w' :=
 ⟨h.gv.E k (fun V => by have := a _ V; omega) (fun V => by have := a _ V; omega), h.keys.E k (fun V => by have := a _ V; omega)⟩
theorem GK.ext {w w' : World} (h : GK w) (k : Ext w w') : GK w' := h.E k fun x V => by cases V
theorem sigName_ok (s : LU) (w : World) (D : GK w) : Fn Zp 89 [AI s] w fun v w' => v = .bool (CJ s) ∧ w' = w := DA s w D.keys
end
section
variable {mk : Prop} [MK mk]
attribute [local semireducible] WC AO Bi BH Be Cq DN BU
variable {P : Program} {all : Array Oper} {Z : Fr → DS → List PanicEntry → World → Prop} {K : Fr → DS → World → Prop} {rest : List Oper} {f : Fr} {ds : DS} {w : World}
 {d : Nat} {ty : TypeId} {pos : String} {af : Array Edge}
theorem bytes_unm (w : World) (e : TypeId) (s : ByteArray) : Unm (Lib.bytesWorld w e s) w.heap.size := fun c t a h => by
 rw [Lib.bytesWorld_at_new] at h;simp only [Option.some.injEq, Obj.cells.injEq] at h;obtain ⟨rfl, _, _⟩ := h;refine .inr fun i v q => ?_;have A := Array.mem_of_getElem? q;unfold Lib.bytesCells at A;rcases Array.mem_append.1 A with A | A
 ·obtain ⟨b, _, rfl⟩ := Array.mem_map.1 A;exact ⟨_, rfl⟩
 ·exact ⟨0, Array.eq_of_mem_replicate A⟩
theorem W_strb {q E e size N : Nat} {z : Value} {x : Operand} {l : LU} [hs : SlT P E e size N z] [he : IntT P e .u8] [hd : StrT P q] (V : ev f x = AI l)
  (h : ∀ w' cap, Ext w w' → w'.heap.size = w.heap.size + 1 → Cells w' w.heap.size 0 (cells8 l) → AO P all Z K rest (upd f d (.slice (sm w.heap.size) l.length cap)) ds w') :
  AO P all Z K (⟨some d, .convert q E x, ty, pos, af, none⟩ :: rest) f ds w := by
 have B := Lib.run_convert_string_bytes (P := P) w q E e ⟨l.toArray⟩ hd.out hs.und he.out;have G : (⟨l.toArray⟩ : ByteArray).size = l.length := by simp [ByteArray.size]
 rw [G] at B;refine Aq (v := .slice (sm w.heap.size) l.length (grownCap w l.length 0 e)) (w' := Lib.bytesWorld w e ⟨l.toArray⟩) rfl ?_ (h _ _ ⟨rfl, rfl, rfl, ?_, fun b S _ => Lib.bytesWorld_at_old w e _ b S, fun _ => mark_new (by rw [Lib.bytesWorld_size]; omega) (fun b S => Lib.bytesWorld_at_old w e _ b S) (bytes_unm w e _), (show w.drawn ≤ (Lib.bytesWorld w e ⟨l.toArray⟩).drawn by unfold Lib.bytesWorld World.freeze World.alloc World.drew; exact Nat.le_succ _)⟩ (Lib.bytesWorld_size w e _) ?_)
 ·simp only [execOp, V];simp [B]
 ·rw [Lib.bytesWorld_size]; omega
 ·intro i u r
  have F : i < l.length := by
   have := (List.getElem?_eq_some_iff.1 r).1;simpa [cells8] using this
  have := Lib.bytesWorld_cell w e ⟨l.toArray⟩ i (by rw [G]; exact F);rw [Nat.zero_add, this];rw [cells8_get F] at r;rw [← r];simp [enc8, List.getD_eq_getElem?_getD]
class IfT (P : Program) (T : TypeId) : Prop where
 out : ∃ ms, P.underlying T = some (.interface ms)
theorem W_nilneq {r o : TypeId} {x : Operand} [hT : IfT P r] (V : ev f x = .nilIface) (h : AO P all Z K rest (upd f d (.bool false)) ds w) :
  AO P all Z K (⟨some d, .binOp .neq r x (.const .nilIface) o, ty, pos, af, none⟩ :: rest) f ds w := by
 obtain ⟨T, X⟩ := hT.out;refine Aq rfl ?_ h
 have H : (Op.equalIn Op.maxDepth r .nilIface .nilIface).run P w = .ok true w := by
  rw [show Op.maxDepth = 9999 + 1 from rfl];generalize 9999 = n;unfold Op.equalIn;simp [run_underlying X]
 have a : ev f (.const .nilIface) = .nilIface := rfl;simp [execOp, V, a, eqGuard, binOp, Op.equal, H]
end
section
variable {mk : Prop} [MK mk]
instance : IfT Zp 251 := ⟨_, Tryz.underlying251⟩
def topN : Nat → Int
 | 0 => 0
 | k + 1 => 10 * topN k + 9
theorem topN_le {k : Nat} (h : k ≤ 4) : topN k ≤ 9999 := by
 match k, h with
 | 0, _ => decide
 | 1, _ => decide
 | 2, _ => decide
 | 3, _ => decide
 | 4, _ => decide
 | k + 5, h => omega
theorem numOf_snoc (l : LU) (c : UInt8) : numOf (l ++ [c]) = 10 * numOf l + ((c.toNat : Int) - 48) := by simp [numOf]
theorem numOf_le : ∀ (k : Nat) (l : LU), l.length = k → (∀ c ∈ l, A8 c = true) → 0 ≤ numOf l ∧ numOf l ≤ topN k
 | 0, l, hl, _ => by
  obtain rfl := List.eq_nil_of_length_eq_zero hl;exact ⟨by decide, by decide⟩
 | k + 1, l, hl, hd => by
  have H : l ≠ [] := fun e => by subst e; simp at hl
  have e := List.dropLast_concat_getLast H;have o := numOf_le k l.dropLast (by simp [hl]) (fun c T => hd c (List.dropLast_subset _ T));have T := hd _ (List.getLast_mem H);generalize l.getLast H = c at T e;rw [← e, numOf_snoc];simp [A8] at T;unfold topN;omega
theorem atoi_ok (s : LU) (w : World) (h : 1 ≤ s.length) (i : s.length ≤ 4) (C : ∀ c ∈ s, A8 c = true) : Fn Zp 251 [AI s] w fun v w' => v = .tuple #[iV (numOf s), .nilIface] ∧ Ext w w' := by
 have G : s[0]? = some s[0] := List.getElem?_eq_getElem U;have a := C s[0] (List.getElem_mem _);generalize s[0] = c0 at G a;simp [A8] at a;refine AG Tryz.func251 rfl Tryz.ntmps251 (go ?_);refine W_strb rfl (fun Q x X e b => go ?_);refine Ah (α := Nat) (fun k => [(5, AI s), (6, iV (numOf (s.take k))), (47, .slice (sm w.heap.size) s.length x), (48, iV (s.length : Int)), (49, iV (k : Int))]) (fun k L => k ≤ s.length ∧ L = Q) (fun k => s.length - k) 0 ⟨rfl, rfl, rfl, rfl, rfl, trivial⟩ ⟨by omega, rfl⟩ ?_;rintro k L f ⟨P, rfl⟩;refine go ?_;by_cases d : k < s.length
 ·have y : s[k]? = some s[k] := List.getElem?_eq_getElem d;have S := C s[k] (List.getElem_mem _);generalize s[k] = c at y S;simp [A8] at S;have j : L.cell? ⟨w.heap.size, 0 + k, none⟩ = some (.int .u8 (c.toNat : Int)) := b k _ (by simp [cells8, y, enc8]);have g : s.take (k + 1) = s.take k ++ [c] := by rw [List.take_add_one, y]; rfl
  have l := numOf_le k (s.take k) Dl (fun c T => C c (List.take_subset _ _ T));have p := topN_le (k := k) U;refine go ?_;refine ⟨k + 1, ⟨rfl, ⟨rfl, ?_, rfl, rfl, ?_, trivial⟩, ⟨by omega, rfl⟩⟩, by omega⟩
  ·rw [g, numOf_snoc, Int.mul_comm 10]; rfl
  ·show iV ((k : Int) + 1) = _;rw [Int.natCast_add]; rfl
 ·obtain rfl : k = s.length := by omega
  refine go ?_;exact Cv rfl ⟨by rw [List.take_length]; rfl, X⟩
theorem Atoi_ok (s : LU) (w : World) (X : 1 ≤ s.length) (a : s.length ≤ 4) (C : ∀ c ∈ s, A8 c = true) : Fn Zp 197 [AI s] w fun v w' => v = .tuple #[iV (numOf s), .nilIface] ∧ Ext w w' := by
 refine AG Tryz.func197 rfl Tryz.ntmps197 (go ?_);refine AC (atoi_ok s w X a C) rfl ?_;rintro v Q ⟨rfl, b⟩;refine go ?_;refine W_nilneq rfl (go ?_);exact Cv rfl ⟨rfl, b⟩
theorem run_accepts_t {t : LU} {m : List Tok} (h : Cw t (m.head?.map bare) = true) : Run (BR t) m (.ok (true, m.tail)) := by
 refine Run.look ?_;rw [if_pos h]; exact Run.next (Run.ret _ _)
theorem run_accepts_f {t : LU} {m : List Tok} (h : Cw t (m.head?.map bare) = false) : Run (BR t) m (.ok (false, m)) := by
 refine Run.look ?_;rw [h]; exact Run.ret _ _
theorem run_expect_t {t : LU} {m : List Tok} (h : Cw t (m.head?.map bare) = true) : Run (Cz t) m (.ok ((), m.tail)) := by
 refine Run.look ?_;rw [if_pos h]; exact Run.next (Run.ret _ _)
theorem run_expect_f {t : LU} {m : List Tok} (h : Cw t (m.head?.map bare) = false) : Run (Cz t) m (.error m) := by
 refine Run.look ?_;rw [h]; exact Run.fail _
theorem B0 (E : Env) (w : World) (m : List Tok) (t : LU) (h : PSt w E m) : Fn Zp 161 [pt E.s, AI t] w (fun v w' => Keep [E.s] w w' ∧ ∃ b e, v = .bool b ∧ Run (BR t) m (.ok (b, e)) ∧ PSt w' E e) := by
 obtain ⟨a, c, S, D⟩ := h.D;refine AG Tryz.func161 rfl Tryz.ntmps161 (go ?_);refine AC (sees_ok E w m t h) rfl ?_;rintro v Q ⟨rfl, rfl⟩;refine go ?_;cases hse : Cw t (m.head?.map bare) with
 | false =>
  refine go ?_;exact AA rfl ⟨Keep.refl _ _, false, m, rfl, run_accepts_f hse, h⟩
 | true =>
  cases m with
  | nil => simp [Cw] at hse
  | cons x l =>
   have M : (x :: l).length = l.length + 1 := rfl;obtain ⟨b, o, rfl, g, _, u⟩ := PSt.tok D;refine go ?_;refine AN rfl rfl rfl S O (fun L d => ?_);have f := h.taken u d;refine go ?_;exact AA rfl ⟨d.E, true, l, rfl, run_accepts_t hse, f⟩
theorem Cy (E : Env) (w : World) (m : List Tok) (t : LU) (h : PSt w E m) : PDo E 162 [pt E.s, AI t] w (Cz t) m (fun _ v _ => v = .tuple #[]) := by
 unfold PDo;refine A5 Tryz.func162 rfl Tryz.ntmps162 nlr Dk (go ?_);refine AC (B0 E w m t h) rfl ?_;rintro v Q ⟨X, b, c, rfl, B, a⟩;cases hse : Cw t (m.head?.map bare) with
 | false =>
  have e := B.det (run_accepts_f hse);cases e;refine go ?_;refine Ap (wrong_ok E Q m a) rfl (R := fun _ _ => False) ?_ ?_
  ·rintro v L u; exact u.elim
  ·rintro q L ⟨rfl, rfl⟩;refine go ?_;exact Ai ⟨X, m, run_expect_f hse, rfl⟩
 | true =>
  have e := B.det (run_accepts_t hse);cases e;refine go ?_;exact BF rfl ⟨X, (), m.tail, run_expect_t hse, a, rfl⟩
theorem pname_ok (E : Env) (w : World) (m : List Tok) (h : PSt w E m) (D : GK w) : PDo E 163 [pt E.s] w nameG m (fun _ v s => v = AI s ∧ CJ s = true) := by
 obtain ⟨a, c, S, i⟩ := h.D;unfold PDo;refine A5 Tryz.func163 rfl Tryz.ntmps163 nlr Dk (go ?_);cases m with
 | nil =>
  have M : ([] : List Tok).length = 0 := rfl;refine go ?_;refine Ap (wrong_ok E w [] h) rfl (R := fun _ _ => False) ?_ ?_
  ·rintro v L u; exact u.elim
  ·rintro q L ⟨rfl, rfl⟩;refine go ?_;exact Ai ⟨Keep.refl _ _, [], Run.look (Run.fail _), rfl⟩
 | cons x l =>
  have M : (x :: l).length = l.length + 1 := rfl;obtain ⟨b, o, rfl, n, ⟨r, B, p⟩, j⟩ := PSt.tok i;by_cases f : x.kind = 1 ∧ CJ x.text = true
  ·obtain ⟨P, G⟩ := f;refine go ?_;refine AC (sigName_ok x.text w D) rfl ?_;rintro v Q ⟨rfl, rfl⟩;rw [G];refine go ?_;refine AN rfl rfl rfl S O (fun L g => ?_);have k := h.taken j g;refine go ?_;refine AA rfl ⟨g.E, x.text, l, Run.look ?_, k, rfl, G⟩;have e : (decide (x.kind = 1) && CJ x.text) = true := by simp [P, G]
   show Run (if (decide (x.kind = 1) && CJ x.text) = true then _ else _) _ _;rw [if_pos e];exact Run.next (Run.ret _ _)
  ·have d : Run nameG (x :: l) (.error (x :: l)) := by
    have e : (decide (x.kind = 1) && CJ x.text) = false := by
     cases S : (decide (x.kind = 1) && CJ x.text) with
     | false => rfl
     | true => simp at S; exact absurd S f
    refine Run.look ?_;show Run (if (decide (x.kind = 1) && CJ x.text) = true then _ else _) _ _;rw [e];exact Run.fail _
   by_cases P : x.kind = 1
   ·have G : CJ x.text = false := by
     cases S : CJ x.text with
     | false => rfl
     | true => exact absurd ⟨P, S⟩ f
    refine go ?_;refine AC (sigName_ok x.text w D) rfl ?_;rintro v Q ⟨rfl, rfl⟩;rw [G];refine go ?_;refine Ap (wrong_ok E Q (x :: l) h) rfl (R := fun _ _ => False) ?_ ?_
    ·rintro v L u; exact u.elim
    ·rintro q L ⟨rfl, rfl⟩;refine go ?_;exact Ai ⟨Keep.refl _ _, x :: l, d, rfl⟩
   ·refine go ?_;refine Ap (wrong_ok E w (x :: l) h) rfl (R := fun _ _ => False) ?_ ?_
    ·rintro v L u; exact u.elim
    ·rintro q L ⟨rfl, rfl⟩;refine go ?_;exact Ai ⟨Keep.refl _ _, x :: l, d, rfl⟩
theorem number_ok (E : Env) (w : World) (m : List Tok) (h : PSt w E m) : PDo E 164 [pt E.s] w numberG m (fun _ v n => v = iV n ∧ 0 ≤ n ∧ n ≤ 9999) := by
 obtain ⟨a, c, S, D⟩ := h.D;unfold PDo;refine A5 Tryz.func164 rfl Tryz.ntmps164 nlr Dk (go ?_);cases m with
 | nil =>
  have M : ([] : List Tok).length = 0 := rfl;refine go ?_;refine Ap (wrong_ok E w [] h) rfl (R := fun _ _ => False) ?_ ?_
  ·rintro v L u; exact u.elim
  ·rintro q L ⟨rfl, rfl⟩;refine go ?_;exact Ai ⟨Keep.refl _ _, [], Run.look (Run.fail _), rfl⟩
 | cons x l =>
  have M : (x :: l).length = l.length + 1 := rfl;obtain ⟨b, o, rfl, g, ⟨G, B, i⟩, d⟩ := PSt.tok D;by_cases P : x.kind = 2
  ·obtain ⟨r, p, A⟩ := h.wf x O P;refine go ?_;refine AC (Atoi_ok x.text w r p A) rfl ?_;rintro v Q ⟨rfl, X⟩;refine go ?_;replace h := h.ext X;replace S := S.E X O;replace d := d.ext X;refine go ?_;refine AN rfl rfl rfl S O (fun L e => ?_);have f := h.taken d e;refine go ?_;have j := numOf_le _ x.text rfl A;have k := topN_le p;refine AA rfl ⟨X.any.trans e.E O, numOf x.text, l, Run.look ?_, f, rfl, by omega⟩;show Run (if decide (x.kind = 2) = true then _ else _) _ _;rw [if_pos (by simp [P])];exact Run.next (Run.ret _ _)
  ·refine go ?_;refine Ap (wrong_ok E w (x :: l) h) rfl (R := fun _ _ => False) ?_ ?_
   ·rintro v L u; exact u.elim
   ·rintro q L ⟨rfl, rfl⟩;refine go ?_;refine Ai ⟨Keep.refl _ _, x :: l, Run.look ?_, rfl⟩;show Run (if decide (x.kind = 2) = true then _ else _) _ _;rw [if_neg (by simp [P])];exact Run.fail _
def oprC (o : Opr) : LV := [iV o.op, iV o.indexed, iV o.val]
theorem oneC_opr (o : Opr) : oneC (oprC o) := by
 intro u r;simp [oprC] at r;rcases r with rfl | rfl | rfl <;> rfl
theorem tabV_lookup (x : LU) : ∀ t : List (LU × Opr), (tabV t).lookup x = (t.lookup x).map oprV
 | [] => rfl
 | (a, o) :: t => by
  have b := tabV_lookup x t;simp only [tabV, List.map_cons, List.lookup_cons] at b ⊢;cases x == a <;> simp [b]
def takeV (o : Option Opr) : LV := oprC (o.getD ⟨0, 0, 0⟩)
theorem pstake_ok (E : Env) (w : World) (j : List Tok) (m : Nat) (W : List (LU × Opr)) (h : PSt w E j) (hm : SMap w m (tabV W)) (b0 : m ≠ E.s) :
  Fn Zp 298 [pt E.s, .map (some m)] w (fun v w' => Keep [E.s] w w' ∧ ∃ o C, v = .tuple #[.agg (takeV o).toArray, .bool o.isSome] ∧ Run (takeG W) j (.ok (o, C)) ∧ PSt w' E C) := by
 obtain ⟨a, c, S, D⟩ := h.D;refine AG Tryz.func298 rfl Tryz.ntmps298 (go ?_);refine AQ (fun Q d => ?_);have k : Blk Q w.heap.size 215 [iV 0, iV 0, iV 0] := d.D;have z1 := d.size;have b1 := h.slt;have X := h.ext d.E;have Z := S.E d.E O;have a2 := D.ext d.E;have a1 := hm.E d.E O;refine go ?_;cases j with
 | nil =>
  have M : ([] : List Tok).length = 0 := rfl;refine go ?_;refine AE (cs := [iV 0, iV 0, iV 0]) rfl rfl rfl (oneC_opr ⟨0, 0, 0⟩) k O (fun F i => ?_);have K : Blk F w.heap.size 215 [iV 0, iV 0, iV 0] := i.D;refine go ?_;exact Bm rfl rfl rfl K.cells ⟨(d.E.E i.E O).any, none, [], rfl, Run.look (Run.ret _ _), X.E i.E Dl⟩
 | cons x l =>
  have M : (x :: l).length = l.length + 1 := rfl;obtain ⟨b, o, rfl, a6, ⟨a7, a8, a9⟩, a3⟩ := PSt.tok a2;have y := tabV_lookup x.text W;refine go ?_;refine W_lookup2S rfl rfl a1 ?_
  have T : ((tabV W).lookup x.text).getD (.agg #[iV 0, iV 0, iV 0]) = .agg (takeV (W.lookup x.text)).toArray := by
   rw [y]; cases W.lookup x.text <;> rfl
  have f : ((tabV W).lookup x.text).isSome = (W.lookup x.text).isSome := by rw [y]; simp
  rw [T, f]
  have R : Run (takeG W) (x :: l) (match W.lookup x.text with | some p => .ok (some p, l) | none => .ok (none, x :: l)) := by
   refine Run.look ?_;show Run (match W.lookup x.text with | some p => .next (.ret (some p)) | none => .ret none) _ _;cases W.lookup x.text with
   | none => exact Run.ret _ _
   | some p => exact Run.next (Run.ret _ _)
  have n : oneC (takeV (W.lookup x.text)) := oneC_opr _;have a0 : (takeV (W.lookup x.text)).length = 3 := rfl;generalize W.lookup x.text = q at R n a0;refine go ?_;refine AQ (fun F V => ?_);have z2 := V.size;refine AE (cs := takeV q) rfl rfl rfl n V.D (by simp [takeV, oprC]) (fun G L => ?_);have g : Ext Q G := V.E.E L.E O;have t : Blk G Q.heap.size 215 (takeV q) := L.D;have B := X.ext g;have z := Z.E g O;have a4 := a3.ext g;have u := k.E g O;refine go ?_;cases q with
  | none =>
   refine go ?_;refine AE (cs := takeV none) rfl rfl rfl n u (by simp [takeV, oprC]) (fun r e => ?_);have N : Blk r w.heap.size 215 (takeV none) := e.D;have k4 : Ext w r := (d.E.trans g).E e.E O;refine go ?_;exact Bm rfl rfl rfl N.cells ⟨k4.any, none, x :: l, rfl, R, B.E e.E Dl⟩
  | some q =>
   refine go ?_;refine AN rfl rfl rfl z O (fun r e => ?_);have q4 := B.taken a4 e;have a5 := t.E e.E Dl;have I := u.E e.E Dl;refine go ?_;refine AE (cs := takeV (some q)) rfl rfl rfl n I (by simp [takeV, oprC]) (fun H A => ?_);have P : Blk H w.heap.size 215 (takeV (some q)) := A.D;have k5 : Keep [E.s] w H := ((d.E.trans g).any.trans e.E O).trans A.E O;refine go ?_;exact Bm rfl rfl rfl P.cells ⟨k5, some q, l, rfl, R, q4.E A.E Dl⟩
theorem index_ok (E : Env) (w : World) (m : List Tok) (o : Opr) (h : PSt w E m) : PDo E 299 [pt E.s, .agg (oprC o).toArray] w (indexG o) m (fun _ v n => v = .tuple #[iV (n.getD 0), .bool n.isSome] ∧ 0 ≤ n.getD 0 ∧ n.getD 0 ≤ 9999) := by
 have D := h.slt;unfold PDo;refine A5 Tryz.func299 rfl Tryz.ntmps299 nlr Dk (go ?_);refine Aj (L := oprC o) rfl (fun r c => ?_);have k : Blk r w.heap.size 215 [iV o.op, iV o.indexed, iV o.val] := c.D;have F := c.size;have X := h.ext c.E;refine go ?_;by_cases i : o.indexed = 0
 ·refine go ?_;refine Cv rfl ⟨c.E.any, none, m, ?_, X, rfl, by decide, by decide⟩;unfold indexG;rw [if_pos i]; exact Run.ret _ _
 ·have e : indexG o = (BR [91]).bind fun b => if b then numberG.bind fun n => (Cz [93]).bind fun _ => .ret (some n) else .ret none := by unfold indexG; rw [if_neg i]
  rw [e];refine go ?_;refine AC (B0 E r m [91] X) rfl ?_;rintro v t ⟨a, b, j, rfl, d, W⟩;replace a : Keep [E.s] w t := c.E.any.trans a O;cases b with
  | false =>
   refine go ?_;exact Cv rfl ⟨a, none, j, d.bind (Run.ret _ _), W, rfl, by decide, by decide⟩
  | true =>
   refine go ?_;refine Ap (number_ok E t j W) rfl ?_ ?_
   ·rintro v x ⟨g, n, z, Q, y, rfl, Z, B⟩;replace g := a.trans g O;refine go ?_;refine Ap (Cy E x z [93] y) rfl ?_ ?_
    ·rintro v p ⟨R, u, C, f, A, rfl⟩;refine go ?_;exact Cv rfl ⟨g.trans R O, some n, C, d.bind (Q.bind (f.bind (Run.ret _ _))), A, rfl, Z, B⟩
    ·rintro q p ⟨R, l, f, rfl⟩;refine go ?_;exact Ai ⟨g.trans R O, l, d.bind (Q.bind (Run.bindE f)), rfl⟩
   ·rintro q x ⟨g, l, Q, rfl⟩;refine go ?_;exact Ai ⟨a.trans g O, l, d.bind (Run.bindE Q), rfl⟩
structure PW (w : World) (E : Env) (ts : List Tok) : Prop where
 st : PSt w E ts
 gk : GK w
 ge : 10 ≤ E.s
theorem PW.next {w w' : World} {E : Env} {m a : List Tok} (h : PW w E m) (k : Keep [E.s] w w') (t : PSt w' E a) : PW w' E a :=
 ⟨t, h.gk.E k (by have := h.ge; simpa using this), h.ge⟩
theorem PW.ext {w w' : World} {E : Env} {m : List Tok} (h : PW w E m) (k : Ext w w') : PW w' E m := ⟨h.st.ext k, h.gk.ext k, h.ge⟩
theorem PW.E {X : List Nat} {w w' : World} {E : Env} {m : List Tok} (h : PW w E m) (k : Keep X w w') (a : ∀ x ∈ X, E.s < x) : PW w' E m :=
 ⟨h.st.E k a, h.gk.E k (fun x V => by have := a x V; have := h.ge; omega), h.ge⟩
theorem psnode_ok (w : World) (N : Int) (ok : Nat → Prop) (a : Option Addr) (cap : Nat) (L : List (LV)) (l : LF) (h : Sl ok w (.slice a l.length cap) l.length L.flatten) (m : FsAt ok w L l) (M : l ≠ []) :
  Fn Zp 288 [iV N, .slice a l.length cap] w fun v w' => Ext w w' ∧ FAt ok w' v (nodeF N l) := by
 refine AG Tryz.func288 rfl Tryz.ntmps288 (go ?_);refine AQ (fun Q E => ?_);have p : Blk Q w.heap.size 36 zero5 := E.D;refine go ?_;have j := h.ext E.E;have P := m.ext E.E;by_cases X : l.length = 1
 ·match l, L, X, P, j with
  | [f], [c], _, P, j =>
   have t := P.2.1 c O;have I := P.2.2 0 c f rfl rfl;obtain ⟨G, q, _, n⟩ := I.cells;have i : c = G := by simpa using q
   subst i;obtain ⟨b, o, rfl, S, D⟩ := j.fml P.2.1 (k := 0) rfl O;have Z : [f].length = 1 := rfl;refine go ?_;refine AR (L := c) rfl t D ?_;refine AE (cs := c) rfl rfl t n p Dp (fun e s => ?_)
   have g : Blk e w.heap.size 36 c := by
    have := s.D
    match c, t with
    | [c0, c1, c2, c3, c4], _ => exact this
   refine go ?_;have d : Ext w e := E.E.E s.E O;refine AT rfl rfl t g.cells ⟨d, ?_⟩;exact (m.2.2 0 c f rfl rfl).ext d
 ·refine go ?_;refine AE (cs := [iV N, AI [], iV 0, iV 0, .slice a l.length cap]) rfl rfl rfl (by intro u r; simp at r; rcases r with rfl | rfl | rfl | rfl | rfl <;> rfl) p Dp (fun e s => ?_);have g : Blk e w.heap.size 36 [iV N, AI [], iV 0, iV 0, .slice a l.length cap] := s.D;refine go ?_;have d : Ext w e := E.E.E s.E O
  have x : nodeF N l = ⟨N, [], 0, 0, l⟩ := by
   match l, X, M with
   | _ :: _ :: _, _, _ => rfl
  rw [x];exact AT rfl rfl rfl g.cells ⟨d, FAt.node N [] 0 0 (h.ext d) (m.ext d)⟩
structure ChainP (sep : LU) (pi : G Fml) (pl : G (LF)) : Prop where
 done : ∀ {t t'}, Run (BR sep) t (.ok (false, t')) → Run pl t (.ok ([], t'))
 more : ∀ {t t1 t2 t3 a l}, Run (BR sep) t (.ok (true, t1)) → Run pi t1 (.ok (a, t2)) → Run pl t2 (.ok (l, t3)) → Run pl t (.ok (a :: l, t3))
 err1 : ∀ {t t1 e}, Run (BR sep) t (.ok (true, t1)) → Run pi t1 (.error e) → Run pl t (.error e)
 err2 : ∀ {t t1 t2 a e}, Run (BR sep) t (.ok (true, t1)) → Run pi t1 (.ok (a, t2)) → Run pl t2 (.error e) → Run pl t (.error e)
def prepA (l : LF) : Ans (LF) → Ans (LF)
 | .ok y => .ok (l ++ y.1, y.2)
 | .error e => .error e
theorem ChainP.step {N : LU} {Z : G Fml} {X : G (LF)} (h : ChainP N Z X) {t c j : List Tok} {a : Fml} (b : Run (BR N) t (.ok (true, c))) (W : Run Z c (.ok (a, j))) {r : Ans (LF)} (B : Run X j r) : Run X t (prepA [a] r) := by
 cases r with
 | ok y => exact h.more b W B
 | error e => exact h.err2 b W B
theorem prepA_app (l m : LF) (r : Ans (LF)) : prepA l (prepA m r) = prepA (l ++ m) r := by
 cases r <;> simp [prepA]
theorem accepts_inv {t : LU} {m s : List Tok} {b : Bool} (h : Run (BR t) m (.ok (b, s))) : (b = true ∧ s.length + 1 = m.length ∧ Cw t (m.head?.map bare) = true ∧ s = m.tail) ∨ (b = false ∧ s = m ∧ Cw t (m.head?.map bare) = false) := by
 cases hs : Cw t (m.head?.map bare) with
 | true =>
  have e := h.det (run_accepts_t hs);cases e;cases m with
  | nil => simp [Cw] at hs
  | cons x l => exact .inl ⟨rfl, rfl, rfl, rfl⟩
 | false =>
  have e := h.det (run_accepts_f hs);cases e;exact .inr ⟨rfl, rfl, rfl⟩
def Ch (E : Env) (N : Nat) (g : FuncId) (Z : G Fml) : Prop := ∀ (w : World) (m : List Tok), PW w E m → m.length ≤ N → PDo E g [pt E.s] w Z m (fun b v a => FAt (fresh w) b v a)
theorem chain_ok (E : Env) (N : Nat) (g : FuncId) [AD Zp g] (H : LU) (pi : G Fml) (C : G (LF)) (hC : ChainP H pi C) (hI : Ch E N g pi) (w : World) (j : List Tok) (h : PW w E j) (hN : j.length ≤ N) :
  PDo E 289 [pt E.s, AI H, .func (.func g) #[pt E.s] #[]] w (pi.bind fun a => C.bind fun l => .ret (a :: l)) j
   (fun w' v l => ∃ a c L, v = .slice a l.length c ∧ l ≠ [] ∧ Sl (fresh w) w' v l.length L.flatten ∧ FsAt (fresh w) w' L l) := by
 have b4 := h.st.slt;unfold PDo;refine A5 Tryz.func289 rfl Tryz.ntmps289 nlr Dk (go ?_);refine Cu (v1 := [pt E.s]) (v2 := []) (vs := []) rfl (hI w j h hN) rfl ?_ ?_;rotate_left
 ·rintro ch Q ⟨X, l, o, rfl⟩;refine go ?_;exact Ai ⟨X, l, Run.bindE o, rfl⟩
 rintro v Q ⟨X, k, Z, o, q1, f1⟩;have P := h.next X q1
 have a6 := f1.lt;obtain ⟨av, rfl, _⟩ := f1.form;refine AL (out := [iV k.op, AI k.name, iV k.val, iV k.bound, av]) rfl U Dr (fun w2 p => ?_);have z2 := p.size;have o2 := p.own (n := 1) (size := 5) rfl Dq (Nat.le_refl _);have h2 := P.ext p.E;have b8 := X.size;refine go ?_;have b5 : Z.length ≤ j.length := (show Z <:+ j from o.suffix).length_le
 refine Ah (α := Value × List (LV) × LF × List Tok) (fun x => [(0, pt E.s), (1, AI H), (2, .func (.func g) #[pt E.s] #[]), (7, x.1)])
  (fun x W => Keep [E.s] w W ∧ PW W E x.2.2.2 ∧ x.2.2.2.length ≤ Z.length ∧ x.2.2.1.length + x.2.2.2.length ≤ j.length + 1 ∧ x.1.ownBlock ≠ none ∧ W.ownsRow Q.heap.size 36 5 x.1 x.2.2.1.length x.2.1.flatten ∧ FsAt (fun b => fresh w b ∧ x.1.ownBlock ≠ some b) W x.2.1 x.2.2.1 ∧
   ∃ A, x.2.2.1 = k :: A ∧ ∀ r, Run C x.2.2.2 r → Run C Z (prepA A r))
  (fun x => x.2.2.2.length) (.slice (sm Q.heap.size) 1 1, [[iV k.op, AI k.name, iV k.val, iV k.bound, av]], [k], Z)
  ⟨rfl, rfl, rfl, rfl, trivial⟩ ⟨X.ext p.E, h2, Nat.le_refl _, by simp; omega, by simp [Value.ownBlock], by simpa using o2, ?_, [], rfl, fun r hr => by cases r <;> simpa [prepA] using hr⟩ ?_
 ·exact FsAt.one ((a6.ext p.E).mono fun b S => ⟨S.1, by simp [Value.ownBlock]; omega⟩) rfl
 rintro ⟨v, L, l, a5⟩ w3 f3 ⟨k3, T, a8, a2, a3, o3, F3, A, rfl, B⟩;simp only at k3 T a8 a2 a3 o3 F3 B ⊢;refine go ?_;refine AC (B0 E w3 a5 H T.st) rfl ?_;rintro _ w4 ⟨R, b, K, rfl, D, q4⟩;have h4 := T.next R q4
 have m : ∀ g, v.ownBlock = some g → Q.heap.size ≤ g ∧ g < w3.heap.size := fun g z => Ab o3 z;have o4 := Ad o3 R (fun g z => by have := m g z; simp; omega);have F4 := F3.E R (fun b S => by have := S.1; simp [fresh] at this ⊢; omega);have a1 := k3.trans R O;rcases accepts_inv D with ⟨rfl, b2, _, _⟩ | ⟨rfl, rfl, _⟩
 ·refine go ?_;refine Cu (v1 := [pt E.s]) (v2 := []) (vs := []) rfl (hI w4 K h4 U) rfl ?_ ?_;rotate_left
  ·rintro ch w5 ⟨f, l, F, rfl⟩;refine go ?_;exact Ai ⟨a1.trans f O, l, o.bind (Run.bindE (B _ (hC.err1 D F))), rfl⟩
  rintro u w5 ⟨f, a, M, F, q5, f5⟩;have h5 := h4.next f q5
  have b1 : M.length ≤ K.length := (show M <:+ K from F.suffix).length_le;have o5 := Ad o4 f (fun g z => by have := m g z; simp; omega);have F5 := F4.E f (fun b S => by have := S.1; simp [fresh] at this ⊢; omega);have a9 := a1.trans f O;have a7 := f5.lt;have b9 := R.size;have z5 := f.size;have z3 := k3.size;obtain ⟨b0, rfl, L5, S5, _⟩ := f5.form;obtain ⟨q, t, rfl, _⟩ := id S5
  have b7 : Q.heap.size ≤ w3.heap.size := by
   obtain ⟨g, z⟩ := Option.ne_none_iff_exists'.1 a3;have := m g z; omega
  refine AL (out := [iV a.op, AI a.name, iV a.val, iV a.bound, .slice q a.args.length t]) rfl U Dr (fun w6 d => ?_);have z6 := d.size;have o6 := d.own (n := 1) (size := 5) rfl Dq (Nat.le_refl _);have b6 := h.st.cnt;have b3 : (k :: A).length = A.length + 1 := rfl;refine Ak (ok := AZ) (v := v) (sv := .slice (sm w5.heap.size) 1 1) rfl rfl (Aa o5 d.E) (AV o6 fun _ _ => trivial) U rfl rfl (by intro y hy; simp at hy; rcases hy with rfl | rfl | rfl | rfl | rfl <;> rfl) U U U (fun I w7 i => ?_);refine go ?_;have o7 := i.own;have e7 : Ext w5 w7 → True := fun _ => trivial;have h7 := (h5.ext d.E).E i.E (fun x V => by have := m x (Option.mem_toList.1 V); omega)
  have a4 : ∀ b, I.ownBlock = some b → v.ownBlock = some b ∨ b = w6.heap.size := fun b S => by
   rcases i.D with e | e
   ·exact .inl EE
   ·rw [e] at S; exact .inr (Option.some.inj S).symm
  have F7 : FsAt (fun b => fresh w b ∧ I.ownBlock ≠ some b) w7 L (k :: A) := by
   refine ((F5.lt.E d.E fun _ _ => by simp).E i.E ?_).mono ?_
   ·rintro b ⟨⟨_, S⟩, _⟩ V; exact S (Option.mem_toList.1 V)
   ·rintro b ⟨⟨P, S⟩, a0⟩;refine ⟨P, fun e => ?_⟩;rcases a4 b e with e | e
    ·exact S e
    ·omega
  have f7 : FAt (fun b => fresh w b ∧ I.ownBlock ≠ some b) w7 (.agg [iV a.op, AI a.name, iV a.val, iV a.bound, .slice q a.args.length t].toArray) a := by
   refine ((a7.ext d.E).E i.E ?_).mono ?_
   ·rintro b ⟨S, a0⟩ V;have := m b (Option.mem_toList.1 V);simp [fresh] at S; omega
   ·rintro b ⟨S, a0⟩;simp only [fresh] at S ⊢;refine ⟨by omega, fun e => ?_⟩;rcases a4 b e with e | e
    ·have := m b e; omega
    ·omega
  refine ⟨(I, L ++ [[iV a.op, AI a.name, iV a.val, iV a.bound, .slice q a.args.length t]], (k :: A) ++ [a], M), ⟨rfl, ⟨rfl, rfl, rfl, rfl, trivial⟩, ⟨?_, h7, by simp only; omega, by simp only [List.length_append, List.length_cons, List.length_nil] at a2 ⊢; omega, i.some O, ?_, F7.snoc f7 rfl, A ++ [a], by simp, fun r hr => ?_⟩⟩, by simp only; omega⟩
  ·exact (a9.ext d.E).trans i.E (fun x V a0 => by have := m x (Option.mem_toList.1 V); omega)
  ·have e1 : (L ++ [[iV a.op, AI a.name, iV a.val, iV a.bound, .slice q a.args.length t]]).flatten = L.flatten ++ [iV a.op, AI a.name, iV a.val, iV a.bound, .slice q a.args.length t] := by simp
   simp only;rw [e1, List.length_append];exact o7
  ·rw [← prepA_app];exact B _ (hC.step D F hr)
 ·refine go ?_;have hS := AV (ok := fresh w) o4 (fun g z => by have := m g z; simp only [fresh]; omega);obtain ⟨sa, sc, rfl, _⟩ := id hS;refine go ?_;refine AA rfl ⟨a1, k :: A, _, o.bind ((B _ (hC.done D)).bind ?_), q4, _, _, L, rfl, by simp, hS, F4.mono fun b S => S.1⟩;simp only [List.append_nil];exact Run.ret _ _
end
end Go.Proofs.YtohodbnnhlddpaaGreatDoor
