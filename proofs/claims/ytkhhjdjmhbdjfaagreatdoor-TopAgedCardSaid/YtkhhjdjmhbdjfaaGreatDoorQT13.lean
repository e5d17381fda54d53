/- The kernel of a formula, where no negation meets an operator: builder.take, full, lone. The kernel of a formula, where no negation meets an operator: builder.form, Kernel. formula.Kernel, where no negation meets an operator. typing.Formula, where every node is of a known kind. Conditions: none. -/
import Derived.Test.YtkhhjdjmhbdjfaaGreatDoorQT12

namespace Go.Proofs.YtkhhjdjmhbdjfaaGreatDoor
open Go.RowKit
set_option linter.unusedVariables false
variable {mk : Prop} [MK mk]
theorem D_leaf {P : Program} {ops : Array Oper} {Z : Fr → DS → List PanicEntry → World → Prop} {K : Fr → DS → World → Prop} {S : World → Prop} {T : DT} {f : Fr} {ds : DS} {w : World} {α : Type} (t : DT) (L : α → List (Nat × Value)) (I : α → World → Prop)
  (h1 : ∀ x f' w', I x w' → Ba P ops Z K t S (ov (L x) f') ds w') (h2 : (∀ x f' w', agr (L x) f' → I x w' → Ba P ops Z K t S f' ds w') → Ba P ops Z K T S f ds w) : Ba P ops Z K T S f ds w :=
 h2 fun x f' w' ha hI => by have := h1 x f' w' hI; rwa [ov_of_agr ha] at this
theorem take_ok (w : World) (bb : Nat) (l d : Int) (hb : Blk w bb 107 [.int .i64 l, .bool false]) (hl : 1 ≤ l) (hl2 : l ≤ 1000) (hd : 1 ≤ d) :
  Fn Tryz.prog 127 [pt bb, .int .i64 d] w fun u w' => u = .bool true ∧ Keep [bb] w w' ∧ Blk w' bb 107 [.int .i64 (l - 1), .bool false] := by
 refine AR Tryz.func127 rfl Tryz.ntmps127 (Nat.le_of_ble_eq_true rfl) (by kernel_rfl) ?_
 repeat refine nx rfl ?_
 refine AA (AC (AB rfl ?_))
 repeat refine nx rfl ?_
 (refine AA (AP rfl (AH rfl (AD rfl (AF rfl (Blk.cell (by assumption) (by rfl)) ?_)))) <;> refine Cy rfl rfl (by first | exact AV (by omega) (by omega) | exact AY (by omega) (by omega) | exact AW (by omega) (by omega)) ?_ <;> refine AH rfl (AD rfl ?_))
 refine Aa (v := .int .i64 (l - 1)) rfl rfl rfl hb (by simp) (fun w1 p1 => ?_)
 refine AO ?_
 have b1 : Blk w1 bb 107 [.int .i64 (l - 1), .bool false] := p1.blk
 repeat refine nx rfl ?_
 (refine AA (AP rfl (AH rfl (AD rfl (AF rfl (Blk.cell (by assumption) (by rfl)) ?_)))) <;> refine Aj rfl rfl (by omega) (AB rfl (AE rfl (AG rfl (AE rfl (Aj rfl rfl (by omega) (AJ rfl (AB rfl ?_))))))))
 repeat first | refine nx rfl ?_ | refine nf rfl ?_
 (refine AA (AP rfl (AH rfl (AD rfl (AF rfl (Blk.cell (by assumption) (by rfl)) ?_)))) <;> refine Ak rfl (AC (AB rfl ?_)))
 repeat refine nx rfl ?_
 exact AI rfl ⟨rfl, p1.keep, b1⟩
def fullM (op : Int) : Int := if op = 7 ∨ op = 13 then 6 else if op = 14 then 5 else if op = 11 then 9 else if op = 12 then 10 else if op = 18 then 16 else if op = 19 then 17 else op
theorem full_ok (w : World) (op : Int) : Fn Tryz.prog 129 [.int .i64 op] w fun u w' => u = .int .i64 (fullM op) ∧ w' = w := by
 unfold fullM
 refine AR Tryz.func129 rfl Tryz.ntmps129 (Nat.le_of_ble_eq_true rfl) (by kernel_rfl) ?_
 repeat refine nx rfl ?_
 refine AA (AC (AG rfl ?_))
 repeat refine nx rfl ?_
 refine AA (AG rfl ?_)
 repeat refine nx rfl ?_
 by_cases h7 : op = 7
 ·rw [if_pos (.inl h7)]
  refine AA (Ai rfl rfl (by omega) (AC (AB rfl ?_)))
  repeat refine nx rfl ?_
  refine AA (AC (AG rfl ?_))
  repeat refine nx rfl ?_
  exact AI rfl ⟨rfl, rfl⟩
 ·by_cases h13 : op = 13
  ·rw [if_pos (.inr h13)]
   refine AA (AT rfl rfl (by omega) (AC (AB rfl ?_)))
   repeat first | refine nx rfl ?_ | refine nf rfl ?_
   refine AA (Ai rfl rfl (by omega) (AC (AB rfl ?_)))
   repeat refine nx rfl ?_
   refine AA (AC (AG rfl ?_))
   repeat refine nx rfl ?_
   exact AI rfl ⟨rfl, rfl⟩
  ·rw [if_neg (by omega)]
   refine AA (AT rfl rfl (by omega) (AC (AB rfl ?_)))
   repeat first | refine nx rfl ?_ | refine nf rfl ?_
   refine AA (AT rfl rfl (by omega) (AC (AB rfl ?_)))
   repeat first | refine nx rfl ?_ | refine nf rfl ?_
   by_cases h14 : op = 14
   ·rw [if_pos h14]
    refine AA (Ai rfl rfl (by omega) (AC (AB rfl ?_)))
    repeat refine nx rfl ?_
    refine AA (AC (AG rfl ?_))
    repeat refine nx rfl ?_
    exact AI rfl ⟨rfl, rfl⟩
   ·rw [if_neg h14]
    refine AA (AT rfl rfl (by omega) (AC (AB rfl ?_)))
    repeat first | refine nx rfl ?_ | refine nf rfl ?_
    by_cases h11 : op = 11
    ·rw [if_pos h11]
     refine AA (Ai rfl rfl (by omega) (AC (AB rfl ?_)))
     repeat refine nx rfl ?_
     refine AA (AC (AG rfl ?_))
     repeat refine nx rfl ?_
     exact AI rfl ⟨rfl, rfl⟩
    ·rw [if_neg h11]
     refine AA (AT rfl rfl (by omega) (AC (AB rfl ?_)))
     repeat first | refine nx rfl ?_ | refine nf rfl ?_
     by_cases h12 : op = 12
     ·rw [if_pos h12]
      refine AA (Ai rfl rfl (by omega) (AC (AB rfl ?_)))
      repeat refine nx rfl ?_
      refine AA (AC (AG rfl ?_))
      repeat refine nx rfl ?_
      exact AI rfl ⟨rfl, rfl⟩
     ·rw [if_neg h12]
      refine AA (AT rfl rfl (by omega) (AC (AB rfl ?_)))
      repeat first | refine nx rfl ?_ | refine nf rfl ?_
      by_cases h18 : op = 18
      ·rw [if_pos h18]
       refine AA (Ai rfl rfl (by omega) (AC (AB rfl ?_)))
       repeat refine nx rfl ?_
       refine AA (AC (AG rfl ?_))
       repeat refine nx rfl ?_
       exact AI rfl ⟨rfl, rfl⟩
      ·rw [if_neg h18]
       refine AA (AT rfl rfl (by omega) (AC (AB rfl ?_)))
       repeat first | refine nx rfl ?_ | refine nf rfl ?_
       by_cases h19 : op = 19
       ·rw [if_pos h19]
        refine AA (Ai rfl rfl (by omega) (AC (AB rfl ?_)))
        repeat refine nx rfl ?_
        refine AA (AC (AG rfl ?_))
        repeat refine nx rfl ?_
        exact AI rfl ⟨rfl, rfl⟩
       ·rw [if_neg h19]
        refine AA (AT rfl rfl (by omega) (AC (AB rfl ?_)))
        repeat first | refine nx rfl ?_ | refine nf rfl ?_
        refine AA (AG rfl (AC (AG rfl ?_)))
        repeat refine nx rfl ?_
        exact AI rfl ⟨rfl, rfl⟩
theorem own_nil (w : World) (B e : Nat) : w.ownsRow B e 5 (.slice none 0 0) 0 [] := ⟨rfl, .inl ⟨rfl, rfl⟩⟩
theorem own_set {w : World} {B n c : Nat} {T : TypeId} {Lc : List Value} {v8 : Value} {xs cs : List Value} (ho : w.ownsRow B 25 5 v8 (n + 1) (xs ++ zero5)) (hx : xs.length = n * 5) (hcs : cs.length = 5) (hb : Blk w c T Lc) (hc : ∀ g, v8.ownBlock = some g → g ≠ c) : ∃ g cap M, v8 = .slice (some ⟨g, 0, none⟩) (n + 1) cap ∧ B ≤ g ∧ Blk w g 25 M ∧ n * 5 + 5 ≤ M.length ∧
  (∀ w1 w2, Put w w1 g 25 (splice M (n * 5) cs) → Put w1 w2 c T (Lc.set 4 v8) → Keep [g, c] w w2 ∧ Blk w2 c T (Lc.set 4 v8) ∧ w2.ownsRow B 25 5 v8 (n + 1) (xs ++ cs)) ∧
  (∀ w1 w2, Put w w1 c T (Lc.set 4 v8) → Put w1 w2 g 25 (splice M (n * 5) cs) → Keep [g, c] w w2 ∧ Blk w2 c T (Lc.set 4 v8) ∧ w2.ownsRow B 25 5 v8 (n + 1) (xs ++ cs)) := by
 obtain ⟨g, cap, M, rfl, hg, bM, hM, hset⟩ := B6 ho hx hcs
 have hcg : c ≠ g := fun e => hc g rfl e.symm
 refine ⟨g, cap, M, rfl, hg, bM, hM, fun w1 w2 p1 p2 => ⟨(p1.keep.mono fun x h => by simp at h; simp [h]).trans p2.keep fun x h _ => by simp at h; simp [h], p2.blk, Ag (hset w1 p1) p2.keep fun g' hg' => by cases hg'; simpa using hcg.symm⟩,
  fun w1 w2 p1 p2 => ⟨(p1.keep.mono fun x h => by simp at h; simp [h]).trans p2.keep fun x h _ => by simp at h; simp [h], p1.blk.keep p2.keep (by simpa using hcg), ?_⟩⟩
 obtain ⟨g', cap', M', e', _, bM', _, hset'⟩ := B6 (Ag ho p1.keep fun g' hg' => by cases hg'; simpa using hcg.symm) hx hcs
 cases e'
 obtain rfl : M' = M := by
  have h1 := bM.keep p1.keep (by simpa using hcg.symm)
  unfold Blk at h1 bM'
  rw [h1] at bM'
  have := Option.some.inj bM'
  simpa using (Obj.cells.inj this).1.symm
 exact hset' w2 p2
theorem lone_ok (w : World) (bb c5 : Nat) (l d op v : Int) (nm : List UInt8) (hne : bb ≠ c5) (hb : Blk w bb 107 [.int .i64 l, .bool false]) (hl : 1 ≤ l) (hl2 : l ≤ 1000) (hd : 2 ≤ d) (hd2 : d ≤ 1000) (hop : op = 9 ∨ op = 10)
  (hc : Blk w c5 25 [.int .i64 op, An nm, .int .i64 v, .int .i64 0, .slice none 0 0]) :
  Fn Tryz.prog 131 [pt bb, pt c5, .int .i64 d] w fun u w' => Keep [bb, c5] w w' ∧ Blk w' bb 107 [.int .i64 (l - 1), .bool false] ∧
   ∃ v8, Blk w' c5 25 [.int .i64 op, An nm, .int .i64 v, .int .i64 0, v8] ∧ w'.ownsRow w.heap.size 25 5 v8 1 [.int .i64 (if op = 9 then 1 else 2), An [], .int .i64 0, .int .i64 0, .slice none 0 0] := by
 have hcl := hc.lt
 refine AR Tryz.func131 rfl Tryz.ntmps131 (Nat.le_of_ble_eq_true rfl) (by kernel_rfl) ?_
 repeat refine nx rfl ?_
 refine AA (AP rfl (AG rfl (Cy rfl rfl (by first | exact AV (by omega) (by omega) | exact AY (by omega) (by omega) | exact AW (by omega) (by omega)) ?_)))
 refine AQ (take_ok w bb l (d - 1) hb hl hl2 (by omega)) rfl ?_
 rintro _ w1 ⟨rfl, k1, b1⟩
 have c1 := hc.keep k1 (by simpa using Ne.symm hne)
 refine Ak rfl ?_
 repeat first | refine nx rfl ?_ | refine nf rfl ?_
 refine AA (AC (AG rfl ?_))
 repeat refine nx rfl ?_
 rcases hop with rfl | rfl
 ·(refine AA (AP rfl (AH rfl (AD rfl (AF rfl (Blk.cell (by assumption) (by rfl)) ?_)))) <;> refine Ai rfl rfl (by omega) (AB rfl (AL rfl (AL rfl (AL rfl (AL rfl (AL rfl (AK rfl (AB rfl ?_)))))))))
  repeat refine nx rfl ?_
  refine AA (AC (AG rfl ?_))
  repeat refine nx rfl ?_
  (refine AA (AP rfl (AH rfl (AD rfl (AF rfl (Blk.cell (by assumption) (by rfl)) ?_)))) <;> refine AT rfl rfl (by omega) ?_)
  repeat first | refine nx rfl ?_ | refine nf rfl ?_
  refine Ad (.read 0 (.read 1 (.read 2 (.read 4 (.read 5 (.alt 3 (.read 6 (.alt 7 (.alt 8 (.read 9 (.read 11 (.read 12 (.alt 10 (.alt 13 .done .stop) (.alt 13 (.alt 10 .done .stop) .stop))))) .stop) .stop)) (.alt 7 (.alt 3 (.read 6 (.alt 8 (.read 9 (.read 11 (.read 12 (.alt 10 (.alt 13 .done .stop) (.alt 13 (.alt 10 .done .stop) .stop))))) .stop)) .stop) .stop))))))) Ax (by kernel_rfl) (fun wd kd ed => ⟨fun _ => True, ?_, ?_⟩)
  ·trivial
  (refine D_R rfl rfl (fun W hW => AP rfl Z3) (D_R rfl rfl (fun W hW => AH rfl Z3) (D_R rfl rfl (fun W hW => AD rfl Z3) (D_R rfl rfl (fun W hW => AG rfl Z3) ?_))) <;> (apply D_R rfl rfl; (intro W hW; refine BE (by rfl) (by rfl) ?_; exact Z3)))
  have ek := k1.ext kd
  have c2 := c1.keep kd (by simp)
  have b2 := b1.keep kd (by simp)
  refine D_leaf (α := Value) (.read 9 (.read 11 (.read 12 (.alt 10 (.alt 13 .done .stop) (.alt 13 (.alt 10 .done .stop) .stop))))) (fun v8 => [(32, pt c5), (37, .agg #[.int .i64 1, An [], .int .i64 0, .int .i64 0, .slice none 0 0]), (38, .int .i64 ((0 : Nat) : Int)), (40, v8)])
   (fun v8 W => Keep [bb] w W ∧ Blk W c5 25 [.int .i64 9, An nm, .int .i64 v, .int .i64 0, .slice none 0 0] ∧ Blk W bb 107 [.int .i64 (l - 1), .bool false] ∧ W.ownsRow w.heap.size 25 5 v8 1 zero5) ?_ (fun leaf => ?_)
  ·rintro v8 f' W ⟨kW, cW, bW, oW⟩
   obtain ⟨g, cap, M, rfl, hg, bM, hM, q1, q2⟩ := own_set (n := 0) (xs := []) (cs := [.int .i64 1, An [], .int .i64 0, .int .i64 0, .slice none 0 0]) oW rfl rfl cW (fun g hg => by have := (Aw oW hg).1; omega)
   have hgb : g ≠ bb := by have := hb.lt; omega
   have hgc : g ≠ c5 := by omega
   refine D_R rfl rfl (fun W hW => Au rfl rfl rfl (by omega) Z3) (D_R rfl rfl (fun W hW => AH rfl Z3) (D_R rfl rfl (fun W hW => AD rfl Z3) ?_))
   refine D_A rfl ?_ (D_E rfl ?_)
   ·refine AU (o := 0 + 0 * 5) (cs := [.int .i64 1, An [], .int .i64 0, .int .i64 0, .slice none 0 0]) rfl rfl rfl (Ap rfl) bM (by omega) (fun w8 p8 => ?_)
    refine AO ⟨_, fun _ h => h, trivial, ?_⟩
    refine D_E rfl ?_
    refine Aa rfl rfl rfl (cW.keep p8.keep (by simpa using hgc.symm)) (by simp) (fun w9 p9 => ?_)
    refine AO ⟨_, fun _ h => h, trivial, ?_⟩
    refine Ah ?_
    obtain ⟨kE, cE, oE⟩ := q1 w8 w9 p8 p9
    repeat refine nx rfl ?_
    exact Cu rfl ⟨kW.mono (fun y hy => by simp at hy; simp [hy]) |>.trans kE (fun y hy hlt => by simp at hy; rcases hy with rfl | rfl; omega; simp), bW.keep kE (by simp; omega), _, cE, oE⟩
   ·refine Aa rfl rfl rfl cW (by simp) (fun w8 p8 => ?_)
    refine AO ⟨_, fun _ h => h, trivial, ?_⟩
    refine D_E rfl ?_
    refine AU (o := 0 + 0 * 5) (cs := [.int .i64 1, An [], .int .i64 0, .int .i64 0, .slice none 0 0]) rfl rfl rfl (Ap rfl) (bM.keep p8.keep (by simpa using hgc)) (by omega) (fun w9 p9 => ?_)
    refine AO ⟨_, fun _ h => h, trivial, ?_⟩
    refine Ah ?_
    obtain ⟨kE, cE, oE⟩ := q2 w8 w9 p8 p9
    repeat refine nx rfl ?_
    exact Cu rfl ⟨kW.mono (fun y hy => by simp at hy; simp [hy]) |>.trans kE (fun y hy hlt => by simp at hy; rcases hy with rfl | rfl; omega; simp), bW.keep kE (by simp; omega), _, cE, oE⟩
  refine D_A rfl ?_ (D_E rfl ?_)
  ·refine AF rfl (c2.cell (o := 4) rfl) ?_
   refine AO ⟨_, fun _ h => h, trivial, ?_⟩
   ((apply D_R rfl rfl; (intro W hW; refine AZ rfl ?_; exact AO ⟨rfl, rfl, rfl⟩)))
   refine D_E rfl ?_
   refine Ab (out := zero5) rfl (by omega) (by rw [CV]; rfl) (fun w3 n3 => ?_)
   refine AO ⟨_, fun _ h => h, trivial, ?_⟩
   refine D_E rfl ?_
   have oz := n3.own (n := 1) (size := 5) rfl (by unfold maxLen; omega) (Nat.le_refl _)
   refine BD (ok := As) (B := w.heap.size) (n := 0) (xs := []) (v := .slice none 0 0) rfl rfl (own_nil _ _ _) (Az oz fun _ _ => trivial) (by omega) rfl rfl (Ap rfl) (by omega) (by omega) (by have := ek.size; have := n3.size; omega) (fun v8 w8 a8 => ?_)
   refine AO ⟨_, fun _ h => h, trivial, ?_⟩
   have k8 := n3.keep.trans a8.keep
   exact leaf v8 _ _ ⟨rfl, rfl, rfl, rfl, trivial⟩ ⟨ek.ext k8, c2.keep k8 (by simp), b2.keep k8 (by simp), a8.own⟩
  ·refine Ab (out := zero5) rfl (by omega) (by rw [CV]; rfl) (fun w3 n3 => ?_)
   refine AO ⟨_, fun _ h => h, trivial, ?_⟩
   refine D_E rfl ?_
   have c3 := c2.keep n3.keep (by simp)
   refine AF rfl (c3.cell (o := 4) rfl) ?_
   refine AO ⟨_, fun _ h => h, trivial, ?_⟩
   ((apply D_R rfl rfl; (intro W hW; refine AZ rfl ?_; exact AO ⟨rfl, rfl, rfl⟩)))
   refine D_E rfl ?_
   have oz := n3.own (n := 1) (size := 5) rfl (by unfold maxLen; omega) (Nat.le_refl _)
   refine BD (ok := As) (B := w.heap.size) (n := 0) (xs := []) (v := .slice none 0 0) rfl rfl (own_nil _ _ _) (Az oz fun _ _ => trivial) (by omega) rfl rfl (Ap rfl) (by omega) (by omega) (by have := ek.size; have := n3.size; omega) (fun v8 w8 a8 => ?_)
   refine AO ⟨_, fun _ h => h, trivial, ?_⟩
   have k8 := n3.keep.trans a8.keep
   exact leaf v8 _ _ ⟨rfl, rfl, rfl, rfl, trivial⟩ ⟨ek.ext k8, c2.keep k8 (by simp), b2.keep k8 (by simp), a8.own⟩
 ·(refine AA (AP rfl (AH rfl (AD rfl (AF rfl (Blk.cell (by assumption) (by rfl)) ?_)))) <;> refine AT rfl rfl (by omega) (AB rfl (AE rfl (AP rfl (AE rfl (AH rfl (AE rfl (AD rfl (AE rfl (AF rfl (Blk.cell (by assumption) (by rfl)) ?_))))))))) <;> refine AE rfl (AT rfl rfl (by omega) (AJ rfl (AB rfl ?_))))
  repeat first | refine nx rfl ?_ | refine nf rfl ?_
  (refine AA (AP rfl (AH rfl (AD rfl (AF rfl (Blk.cell (by assumption) (by rfl)) ?_)))) <;> refine AT rfl rfl (by omega) ?_)
  repeat first | refine nx rfl ?_ | refine nf rfl ?_
  refine Ad (.read 0 (.read 1 (.read 2 (.read 4 (.read 5 (.alt 3 (.read 6 (.alt 7 (.alt 8 (.read 9 (.read 11 (.read 12 (.alt 10 (.alt 13 .done .stop) (.alt 13 (.alt 10 .done .stop) .stop))))) .stop) .stop)) (.alt 7 (.alt 3 (.read 6 (.alt 8 (.read 9 (.read 11 (.read 12 (.alt 10 (.alt 13 .done .stop) (.alt 13 (.alt 10 .done .stop) .stop))))) .stop)) .stop) .stop))))))) Ax (by kernel_rfl) (fun wd kd ed => ⟨fun _ => True, ?_, ?_⟩)
  ·trivial
  (refine D_R rfl rfl (fun W hW => AP rfl Z3) (D_R rfl rfl (fun W hW => AH rfl Z3) (D_R rfl rfl (fun W hW => AD rfl Z3) (D_R rfl rfl (fun W hW => AG rfl Z3) ?_))) <;> (apply D_R rfl rfl; (intro W hW; refine BE (by rfl) (by rfl) ?_; exact Z3)))
  have ek := k1.ext kd
  have c2 := c1.keep kd (by simp)
  have b2 := b1.keep kd (by simp)
  refine D_leaf (α := Value) (.read 9 (.read 11 (.read 12 (.alt 10 (.alt 13 .done .stop) (.alt 13 (.alt 10 .done .stop) .stop))))) (fun v8 => [(32, pt c5), (37, .agg #[.int .i64 2, An [], .int .i64 0, .int .i64 0, .slice none 0 0]), (38, .int .i64 ((0 : Nat) : Int)), (40, v8)])
   (fun v8 W => Keep [bb] w W ∧ Blk W c5 25 [.int .i64 10, An nm, .int .i64 v, .int .i64 0, .slice none 0 0] ∧ Blk W bb 107 [.int .i64 (l - 1), .bool false] ∧ W.ownsRow w.heap.size 25 5 v8 1 zero5) ?_ (fun leaf => ?_)
  ·rintro v8 f' W ⟨kW, cW, bW, oW⟩
   obtain ⟨g, cap, M, rfl, hg, bM, hM, q1, q2⟩ := own_set (n := 0) (xs := []) (cs := [.int .i64 2, An [], .int .i64 0, .int .i64 0, .slice none 0 0]) oW rfl rfl cW (fun g hg => by have := (Aw oW hg).1; omega)
   have hgb : g ≠ bb := by have := hb.lt; omega
   have hgc : g ≠ c5 := by omega
   refine D_R rfl rfl (fun W hW => Au rfl rfl rfl (by omega) Z3) (D_R rfl rfl (fun W hW => AH rfl Z3) (D_R rfl rfl (fun W hW => AD rfl Z3) ?_))
   refine D_A rfl ?_ (D_E rfl ?_)
   ·refine AU (o := 0 + 0 * 5) (cs := [.int .i64 2, An [], .int .i64 0, .int .i64 0, .slice none 0 0]) rfl rfl rfl (Ap rfl) bM (by omega) (fun w8 p8 => ?_)
    refine AO ⟨_, fun _ h => h, trivial, ?_⟩
    refine D_E rfl ?_
    refine Aa rfl rfl rfl (cW.keep p8.keep (by simpa using hgc.symm)) (by simp) (fun w9 p9 => ?_)
    refine AO ⟨_, fun _ h => h, trivial, ?_⟩
    refine Ah ?_
    obtain ⟨kE, cE, oE⟩ := q1 w8 w9 p8 p9
    repeat refine nx rfl ?_
    exact Cu rfl ⟨kW.mono (fun y hy => by simp at hy; simp [hy]) |>.trans kE (fun y hy hlt => by simp at hy; rcases hy with rfl | rfl; omega; simp), bW.keep kE (by simp; omega), _, cE, oE⟩
   ·refine Aa rfl rfl rfl cW (by simp) (fun w8 p8 => ?_)
    refine AO ⟨_, fun _ h => h, trivial, ?_⟩
    refine D_E rfl ?_
    refine AU (o := 0 + 0 * 5) (cs := [.int .i64 2, An [], .int .i64 0, .int .i64 0, .slice none 0 0]) rfl rfl rfl (Ap rfl) (bM.keep p8.keep (by simpa using hgc)) (by omega) (fun w9 p9 => ?_)
    refine AO ⟨_, fun _ h => h, trivial, ?_⟩
    refine Ah ?_
    obtain ⟨kE, cE, oE⟩ := q2 w8 w9 p8 p9
    repeat refine nx rfl ?_
    exact Cu rfl ⟨kW.mono (fun y hy => by simp at hy; simp [hy]) |>.trans kE (fun y hy hlt => by simp at hy; rcases hy with rfl | rfl; omega; simp), bW.keep kE (by simp; omega), _, cE, oE⟩
  refine D_A rfl ?_ (D_E rfl ?_)
  ·refine AF rfl (c2.cell (o := 4) rfl) ?_
   refine AO ⟨_, fun _ h => h, trivial, ?_⟩
   ((apply D_R rfl rfl; (intro W hW; refine AZ rfl ?_; exact AO ⟨rfl, rfl, rfl⟩)))
   refine D_E rfl ?_
   refine Ab (out := zero5) rfl (by omega) (by rw [CV]; rfl) (fun w3 n3 => ?_)
   refine AO ⟨_, fun _ h => h, trivial, ?_⟩
   refine D_E rfl ?_
   have oz := n3.own (n := 1) (size := 5) rfl (by unfold maxLen; omega) (Nat.le_refl _)
   refine BD (ok := As) (B := w.heap.size) (n := 0) (xs := []) (v := .slice none 0 0) rfl rfl (own_nil _ _ _) (Az oz fun _ _ => trivial) (by omega) rfl rfl (Ap rfl) (by omega) (by omega) (by have := ek.size; have := n3.size; omega) (fun v8 w8 a8 => ?_)
   refine AO ⟨_, fun _ h => h, trivial, ?_⟩
   have k8 := n3.keep.trans a8.keep
   exact leaf v8 _ _ ⟨rfl, rfl, rfl, rfl, trivial⟩ ⟨ek.ext k8, c2.keep k8 (by simp), b2.keep k8 (by simp), a8.own⟩
  ·refine Ab (out := zero5) rfl (by omega) (by rw [CV]; rfl) (fun w3 n3 => ?_)
   refine AO ⟨_, fun _ h => h, trivial, ?_⟩
   refine D_E rfl ?_
   have c3 := c2.keep n3.keep (by simp)
   refine AF rfl (c3.cell (o := 4) rfl) ?_
   refine AO ⟨_, fun _ h => h, trivial, ?_⟩
   ((apply D_R rfl rfl; (intro W hW; refine AZ rfl ?_; exact AO ⟨rfl, rfl, rfl⟩)))
   refine D_E rfl ?_
   have oz := n3.own (n := 1) (size := 5) rfl (by unfold maxLen; omega) (Nat.le_refl _)
   refine BD (ok := As) (B := w.heap.size) (n := 0) (xs := []) (v := .slice none 0 0) rfl rfl (own_nil _ _ _) (Az oz fun _ _ => trivial) (by omega) rfl rfl (Ap rfl) (by omega) (by omega) (by have := ek.size; have := n3.size; omega) (fun v8 w8 a8 => ?_)
   refine AO ⟨_, fun _ h => h, trivial, ?_⟩
   have k8 := n3.keep.trans a8.keep
   exact leaf v8 _ _ ⟨rfl, rfl, rfl, rfl, trivial⟩ ⟨ek.ext k8, c2.keep k8 (by simp), b2.keep k8 (by simp), a8.own⟩
end Go.Proofs.YtkhhjdjmhbdjfaaGreatDoor
namespace Go.Proofs.YtkhhjdjmhbdjfaaGreatDoor
open Go.RowKit
set_option linter.unusedVariables false
variable {mk : Prop} [MK mk]
def nIs (f : Fml) : Fml := ⟨4, [], 0, 0, [⟨3, f.name, f.val, 0, []⟩]⟩
def posO (op : Int) : Bool := decide (1 ≤ op) && decide (op ≤ 12) && !decide (op = 5) && !decide (op = 8)
def posH (op : Int) (args : List Fml) : Bool := posO op && (if op = 3 then decide (args.length = 0) else true) && if op = 4 ∨ op = 7 then decide (0 < args.length) && decide ((args.getD 0 Af).op = 3) else true
mutual
def posB : Fml → Bool
 | .mk op _ _ _ args => posH op args && posL args
def posL : List Fml → Bool
 | [] => true
 | a :: l => posB a && posL l
end
theorem posL_mem : ∀ {l : List Fml} {a : Fml}, posL l = true → a ∈ l → posB a = true
 | [], _, _, h => by cases h
 | c :: l, a, h, ha => by
  simp only [posL, Bool.and_eq_true] at h
  rcases List.mem_cons.1 ha with rfl | ha
  ·exact h.1
  ·exact posL_mem h.2 ha
def Cq (op : Int) : List Fml := if op = 11 then [⟨1, [], 0, 0, []⟩] else if op = 12 then [⟨2, [], 0, 0, []⟩] else []
def repl0 (a : Fml) : List Fml → List Fml
 | _ :: r => nIs a :: r
 | [] => []
def kerO (op : Int) (nm : List UInt8) (v : Int) (args ks : List Fml) : Fml := if op = 4 then nIs (args.getD 0 Af) else ⟨fullM op, nm, v, 0, Cq op ++ (if op = 7 then repl0 (args.getD 0 Af) ks else ks)⟩
mutual
def kerP : Fml → Fml
 | .mk op nm v _ args => kerO op nm v args (kerL args)
def kerL : List Fml → List Fml
 | [] => []
 | a :: l => kerP a :: kerL l
end
theorem kerL_eq : ∀ l, kerL l = l.map kerP
 | [] => rfl
 | a :: l => by rw [kerL, kerL_eq l]; rfl
def cstO (op : Int) (n : Nat) : Nat := if op = 11 ∨ op = 12 ∨ op = 7 ∨ op = 4 then n + 2 else n + 1
mutual
def cst : Fml → Nat
 | .mk op _ _ _ args => if op = 4 then 2 else cstO op (cstL args)
def cstL : List Fml → Nat
 | [] => 0
 | a :: l => cst a + cstL l
end
theorem cstL_take {l : List Fml} {k : Nat} {x : Fml} (h : l[k]? = some x) : cstL (l.take (k + 1)) = cstL (l.take k) + cst x := by
 rw [List.take_add_one, h, Option.toList_some]
 generalize l.take k = m
 induction m with
 | nil => simp [cstL]
 | cons a m ih => rw [List.cons_append, cstL, cstL, ih]; omega
theorem cstL_le (l : List Fml) (k : Nat) : cstL (l.take k) ≤ cstL l := by
 induction l generalizing k with
 | nil => simp [cstL]
 | cons a l ih =>
  cases k with
  | zero => simp [cstL]
  | succ k => rw [List.take_succ_cons, cstL, cstL]; have := ih k; omega
theorem cst_3 {f : Fml} (h : f.op = 3) (ha : f.args = []) : cst f = 1 := by
 obtain ⟨op, nm, v, b, args⟩ := f
 obtain rfl : op = 3 := h
 obtain rfl : args = [] := ha
 rfl
def B3 (op : Int) (args : List Fml) : List Fml := if op = 7 then repl0 (args.getD 0 Af) (args.map kerP) else args.map kerP
theorem kargs_len (op : Int) (args : List Fml) : (B3 op args).length = args.length := by
 unfold B3
 split
 ·cases args <;> simp [repl0]
 ·simp
theorem kargs_at {op : Int} {args : List Fml} {k : Nat} {x : Fml} (h : args[k]? = some x) : (B3 op args)[k]? = some (if op = 7 ∧ k = 0 then nIs x else kerP x) := by
 unfold B3
 by_cases h7 : op = 7
 ·rw [if_pos h7]
  cases args with
  | nil => simp at h
  | cons a l =>
   cases k with
   | zero => simp at h; subst h; simp [h7, repl0]
   | succ k => simp at h; simp [h7, h, repl0]
 ·rw [if_neg h7, if_neg (fun hh => h7 hh.1), List.getElem?_map, h]; rfl
theorem ker_eq {op v b : Int} {nm : List UInt8} {args : List Fml} (h4 : op ≠ 4) : kerP (.mk op nm v b args) = ⟨fullM op, nm, v, 0, Cq op ++ B3 op args⟩ := by
 rw [kerP, kerL_eq]; unfold kerO; rw [if_neg h4]; rfl
theorem cst_eq {op v b : Int} {nm : List UInt8} {args : List Fml} (h4 : op ≠ 4) : cst (.mk op nm v b args) = (if op = 11 ∨ op = 12 ∨ op = 7 then 2 else 1) + cstL args := by
 rw [cst, if_neg h4, cstO]
 by_cases h : op = 11 ∨ op = 12 ∨ op = 7
 ·rw [if_pos (by omega), if_pos h]; omega
 ·rw [if_neg (by omega), if_neg h]; omega
theorem pos_parts {op v b : Int} {nm : List UInt8} {args : List Fml} (h : posB (.mk op nm v b args) = true) : (1 ≤ op ∧ op ≤ 12 ∧ op ≠ 5 ∧ op ≠ 8) ∧ (op = 3 → args = []) ∧ (op = 4 ∨ op = 7 → 0 < args.length ∧ (args.getD 0 Af).op = 3) ∧ ∀ a ∈ args, posB a = true := by
 simp only [posB, posH, posO, Bool.and_eq_true, decide_eq_true_eq, Bool.not_eq_true', decide_eq_false_iff_not] at h
 obtain ⟨⟨⟨h1, h2⟩, h3⟩, h4⟩ := h
 refine ⟨⟨h1.1.1.1, h1.1.1.2, h1.1.2, h1.2⟩, fun e => ?_, fun e => ?_, fun a ha => posL_mem h4 ha⟩
 ·rw [if_pos e] at h2
  exact List.eq_nil_of_length_eq_zero (of_decide_eq_true h2)
 ·rw [if_pos e, Bool.and_eq_true] at h3
  exact ⟨of_decide_eq_true h3.1, of_decide_eq_true h3.2⟩
theorem own_snoc {w : World} {B : Nat} {v : Value} {l0 : List Fml} {r : Fml} {L0 : List (List Value)} {cs : List Value} (h : w.ownsRow B 25 5 v (l0.length + 1) (L0.flatten ++ cs)) : w.ownsRow B 25 5 v (l0 ++ [r]).length (L0 ++ [cs]).flatten := by
 rw [List.length_append, List.flatten_append]
 simpa using h
theorem form_ok (bb : Nat) : ∀ (n : Nat) (w : World) (b o : Nat) (f : Fml) (neg : Bool) (l d : Int), dpF f ≤ n → szF f ≤ 1000 → PF (fun b => b ≠ bb) w b o f → posB f = true → (neg = true → f.op = 3) → Blk w bb 107 [.int .i64 l, .bool false] → (cst f : Int) + (if neg then 1 else 0) ≤ l → l ≤ 1000 → (dpF f : Int) + 1 ≤ d → d ≤ 1000 →
  Fn Tryz.prog 97 [pt bb, .pointer (some ⟨b, o, none⟩), .bool neg, .int .i64 d] w fun u w' => Keep [bb] w w' ∧ Blk w' bb 107 [.int .i64 (l - ((cst f : Int) + if neg then 1 else 0)), .bool false] ∧ FAt (fun b => w.heap.size ≤ b) w' u (if neg then nIs f else kerP f) := by
 intro n
 induction n with
 | zero => intro w b o f neg l d hn; rw [Bd] at hn; omega
 | succ n ih =>
 intro w b o f neg l d hn hz hf hp hneg hb hl hl2 hd hd2
 have hf0 := hf
 obtain ⟨aa, cc, hla, q0, q1, q2, q3, q4, qa⟩ := hf.all
 obtain ⟨op, nm, v, bd, args⟩ := f
 obtain ⟨⟨p1, p2, p3, p4⟩, p5, p6, p7⟩ := pos_parts hp
 have hzl := CQ args
 rw [Bd] at hn hd
 rw [BW] at hz
 simp only [Fml.op, Fml.name, Fml.val, Fml.args] at hn hd hz hla q0 q1 q2 q4 qa hneg
 have hbw := World.block_lt_of_cell? w _ q0
 simp only at hbw
 have hbl := hb.lt
 have hbn : b ≠ bb := hf.1
 refine AR Tryz.func97 rfl Tryz.ntmps97 (Nat.le_of_ble_eq_true rfl) (by kernel_rfl) ?_
 repeat refine nx rfl ?_
 (refine AA ?_; refine Ar (L := zero5) (fun w1 n1 => ?_))
 refine AO ?_
 have z1 := n1.size
 have hb1 := hb.keep n1.keep (by simp)
 repeat refine nx rfl ?_
 (refine AA (AP rfl (AH rfl (AD rfl (AF rfl (Blk.cell (by assumption) (by rfl)) ?_)))) <;> refine AC (AB rfl ?_))
 repeat first | refine nx rfl ?_ | refine nf rfl ?_
 have q01 := n1.keep.cell q0 (by simp)
 cases neg with
 | true =>
  obtain rfl : op = 3 := hneg rfl
  obtain rfl := p5 rfl
  have hcs : cst (.mk 3 nm v bd []) = 1 := rfl
  rw [hcs] at hl ⊢
  simp only [if_true] at hl ⊢
  (refine AA (AP rfl (AH rfl (AD rfl (AF rfl (by assumption) ?_)))) <;> refine AT rfl rfl (by omega) (AC (AB rfl ?_)))
  repeat first | refine nx rfl ?_ | refine nf rfl ?_
  (refine AA (AP rfl (AH rfl (AD rfl (AF rfl (by assumption) ?_)))) <;> refine Ai rfl rfl (by omega) (AB rfl (AE rfl (AB rfl (AK rfl (AB rfl (AC (AB rfl ?_))))))))
  repeat refine nx rfl ?_
  refine AA (AP rfl (AG rfl ?_))
  have hd1 : (2 : Int) ≤ d := by have : dpL [] = 0 := rfl; omega
  refine AQ (take_ok w1 bb l d hb1 (by omega) hl2 (by omega)) rfl ?_
  rintro _ w2 ⟨rfl, k2, hb2⟩
  refine Ak rfl (AB rfl (AE rfl (AP rfl (AE rfl (AG rfl (AE rfl (Cy rfl rfl (by first | exact AV (by omega) (by omega) | exact AY (by omega) (by omega) | exact AW (by omega) (by omega)) ?_)))))))
  refine AE rfl (AQ (take_ok w2 bb (l - 1) (d - 1) hb2 (by omega) (by omega) (by omega)) rfl ?_)
  rintro _ w3 ⟨rfl, k3, hb3⟩
  refine AE rfl (Ak rfl (AJ rfl (AB rfl ?_)))
  repeat first | refine nx rfl ?_ | refine nf rfl ?_
  have k13 : Keep [bb] w1 w3 := k2.trans k3 (fun _ h _ => h)
  have z2 := k2.size
  have z3 := k3.size
  refine Ad (.read 0 (.read 1 (.read 2 (.read 3 (.read 4 (.read 5 (.read 6 (.read 7 (.read 8 (.alt 9 (.read 10 (.alt 11 .done .stop)) .stop)))))))))) Ax (by kernel_rfl) (fun wd kd ed => ⟨fun V => Keep [w.heap.size] wd V, ?_, ?_⟩)
  ·exact Keep.refl _ _
  have e1 : ∀ (i : Nat) (u : Value), w.cell? ⟨b, i, none⟩ = some u → wd.cell? ⟨b, i, none⟩ = some u := fun i u hu => kd.cell (k13.cell (n1.keep.cell hu (by simp)) (by simpa using hbn)) (by simp)
  have s1 : ∀ V, Keep [w.heap.size] wd V → V.cell? ⟨b, o + 1, none⟩ = some (An nm) := fun V e => e.cell (e1 _ _ q1) (by simp; omega)
  have s2 : ∀ V, Keep [w.heap.size] wd V → V.cell? ⟨b, o + 2, none⟩ = some (.int .i64 v) := fun V e => e.cell (e1 _ _ q2) (by simp; omega)
  (refine D_R rfl rfl (fun W hW => AP rfl Z3) (D_R rfl rfl (fun W hW => AH rfl Z3) (D_R rfl rfl (fun W hW => AD rfl Z3) (D_R rfl rfl (fun W hW => AF rfl (s1 W hW) Z3) (D_R rfl rfl (fun W hW => AP rfl Z3) (D_R rfl rfl (fun W hW => AH rfl Z3) (D_R rfl rfl (fun W hW => AD rfl Z3) (D_R rfl rfl (fun W hW => AF rfl (s2 W hW) Z3) ?_))))))) <;> (apply D_R rfl rfl; (intro W hW; refine BE (by rfl) (by rfl) ?_; exact Z3)))
  refine D_E rfl ?_
  refine Ab (out := [.int .i64 3, An nm, .int .i64 v, .int .i64 0, .slice none 0 0]) rfl (by omega) (by rw [CV]; rfl) (fun w4 n4 => ?_)
  refine AO ⟨_, fun _ h => h, n4.keep.any, ?_⟩
  ((apply D_R rfl rfl; (intro W hW; refine BE (by rfl) (by rfl) ?_; exact AO ⟨rfl, rfl, rfl⟩)))
  refine D_E rfl ?_
  have zd := kd.size
  have z4 := n4.size
  refine AU (cs := [.int .i64 4, An [], .int .i64 0, .int .i64 0, .slice (some ⟨wd.heap.size, 0, none⟩) 1 1]) rfl rfl rfl (Ap rfl) (((n1.blk.keep k13 (by simp; omega)).keep kd (by simp)).keep n4.keep (by simp)) (by simp [zero5]) (fun w9 p9 => ?_)
  refine AO ⟨_, fun _ h => h, n4.keep.any.trans p9.keep (fun _ h _ => h), ?_⟩
  refine Ah ?_
  repeat refine nx rfl ?_
  have hF : FsAt (fun b => w1.heap.size ≤ b) wd [[.int .i64 3, An nm, .int .i64 v, .int .i64 0, .slice none 0 0]] [⟨3, nm, v, 0, []⟩] := FsAt.one (FAt.leaf _ _ 3 nm v 0) rfl
  obtain ⟨h1, h2⟩ := FsAt.fresh (L := [[.int .i64 3, An nm, .int .i64 v, .int .i64 0, .slice none 0 0]]) n4 hF (by omega) (by simp)
  refine A2 rfl rfl rfl p9.blk.cells ⟨?_, ?_, ((FAt.node 4 [] 0 0 h1 h2).keep p9.keep (fun y hy hm => by simp at hm; omega)).mono fun y hy => by omega⟩
  ·exact ((n1.keep.any.trans k13 (fun _ h _ => h)).ext (kd.trans n4.keep)).trans p9.keep (fun y hy hlt => by simp at hy; omega)
  ·have := ((hb3.keep kd (by simp)).keep n4.keep (by simp)).keep p9.keep (by simp; omega)
   rw [show l - (((1 : Nat) : Int) + 1) = l - 1 - 1 by omega]
   exact this
 | false =>
  simp only [Bool.false_eq_true, if_false, Int.add_zero] at hl ⊢
  by_cases h4 : op = 4
  ·subst h4
   obtain ⟨pl, pa⟩ := p6 (.inl rfl)
   obtain ⟨a, ha⟩ : ∃ a, args[0]? = some a := ⟨_, List.getElem?_eq_getElem pl⟩
   have hga : args.getD 0 Af = a := by rw [List.getD_eq_getElem?_getD, ha]; rfl
   rw [hga] at pa
   obtain ⟨b', o', rfl, hpa⟩ := qa 0 a ha
   have hm' := List.mem_of_getElem? ha
   have h1 := Bp hm'
   have h2 := BY hm'
   have hca : cst a = 1 := cst_3 pa (by obtain ⟨op', nm', v', bd', as'⟩ := a; exact (pos_parts (p7 _ hm')).2.1 pa)
   have q41 := n1.keep.cell q4 (by simp)
   have hcf : cst (.mk 4 nm v bd args) = 2 := by rw [cst, if_pos rfl]
   have hkf : kerP (.mk 4 nm v bd args) = nIs a := by rw [kerP]; unfold kerO; rw [if_pos rfl, hga]
   rw [hcf] at hl ⊢
   rw [hkf]
   (refine AA (AP rfl (AH rfl (AD rfl (AF rfl (by assumption) ?_)))) <;> refine Ai rfl rfl (by omega) (AC (AB rfl ?_)))
   repeat refine nx rfl ?_
   (refine AA (AP rfl (AP rfl (AH rfl (AD rfl (AF rfl (by assumption) ?_))))) <;> refine Au rfl rfl rfl (by omega) (AB rfl (Ak rfl (AG rfl ?_))))
   refine AQ (ih w1 b' _ a true l d (by omega) (by omega) (hpa.keep n1.keep (fun _ _ => by simp)) (p7 a hm') (fun _ => pa) hb1 (by rw [hca]; simp; omega) hl2 (by omega) hd2) rfl ?_
   rintro u w2 ⟨k2, hb2, f2⟩
   simp only [if_true, hca] at f2 hb2
   obtain ⟨cs, rfl, hcs, hone⟩ := f2.cells
   obtain ⟨y0, y1, y2, y3, y4, rfl⟩ := A7 hcs
   refine AU (cs := [y0, y1, y2, y3, y4]) rfl rfl rfl hone (n1.blk.keep k2 (by simp; omega)) (by simp [zero5]) (fun w9 p9 => ?_)
   repeat refine nx rfl ?_
   refine A2 rfl rfl rfl p9.blk.cells ⟨(n1.keep.any.trans k2 (fun _ h _ => h)).trans p9.keep (fun y hy hlt => by simp at hy; omega), ?_, (f2.keep p9.keep (fun y hy hm => by simp at hm; omega)).mono fun y hy => by omega⟩
   have := hb2.keep p9.keep (by simp; omega)
   exact this
  ·have hcf := cst_eq (op := op) (v := v) (b := bd) (nm := nm) (args := args) h4
   have hkf := ker_eq (op := op) (v := v) (b := bd) (nm := nm) (args := args) h4
   rw [hcf] at hl ⊢
   rw [hkf]
   (refine AA (AP rfl (AH rfl (AD rfl (AF rfl (by assumption) ?_)))) <;> refine AT rfl rfl (by omega) (AC (AB rfl ?_)))
   repeat first | refine nx rfl ?_ | refine nf rfl ?_
   refine Cn (α := Unit) (fun _ => [(0, pt bb), (1, .pointer (some ⟨b, o, none⟩)), (2, .bool false), (3, .int .i64 d), (8, pt w.heap.size), (34, .bool false)]) (fun _ W => W = w1) ?_ ?_
   ·by_cases h3 : op = 3
    ·(refine AA (AP rfl (AH rfl (AD rfl (AF rfl (by assumption) ?_)))) <;> refine Ai rfl rfl (by omega) (AB rfl (AE rfl (AB rfl (AK rfl (AB rfl (AC (AB rfl (AO ?_)))))))))
     exact A0 () ⟨rfl, rfl, rfl, rfl, rfl, rfl, trivial⟩ rfl
    ·(refine AA (AP rfl (AH rfl (AD rfl (AF rfl (by assumption) ?_)))) <;> refine AT rfl rfl (by omega) (AB rfl (AL rfl (AJ rfl (AB rfl (AC (AB rfl (AO ?_))))))))
     exact A0 () ⟨rfl, rfl, rfl, rfl, rfl, rfl, trivial⟩ rfl
   rintro _ _ f1 e1
   rw [e1]
   clear e1
   repeat first | refine nx rfl ?_ | refine nf rfl ?_
   (refine AA (AP rfl (AH rfl (AD rfl (AF rfl (by assumption) ?_)))) <;> refine AT rfl rfl (by omega) (AB rfl (AE rfl (AP rfl (AE rfl (AH rfl (AE rfl (AD rfl (AE rfl (AF rfl (by assumption) ?_))))))))) <;> refine AE rfl (AT rfl rfl (by omega) (AJ rfl (AB rfl (AC (AB rfl ?_))))))
   repeat first | refine nx rfl ?_ | refine nf rfl ?_
   refine AA (AP rfl (AG rfl ?_))
   have hc0 : (0 : Int) ≤ cstL args := Int.natCast_nonneg _
   have hl1 : (1 : Int) ≤ l := by split at hl <;> omega
   have hdp : (1 : Int) ≤ dpL args + 1 := by have := Int.natCast_nonneg (dpL args); omega
   have hdp2 : (dpL args : Int) + 1 + 1 ≤ d := by exact_mod_cast hd
   refine AQ (take_ok w1 bb l d hb1 hl1 hl2 (by omega)) rfl ?_
   rintro _ w2 ⟨rfl, k2, hb2⟩
   refine Ak rfl ?_
   repeat first | refine nx rfl ?_ | refine nf rfl ?_
   have z2 := k2.size
   have hw1 := z1
   refine Ad (.read 0 (.read 1 (.read 2 (.read 3 (.read 5 (.read 6 (.read 7 (.read 8 (.read 9 (.read 10 (.read 11 (.read 12 (.alt 4 (.read 13 (.alt 14 (.alt 15 .done .stop) .stop)) (.alt 14 (.alt 4 (.read 13 (.alt 15 .done .stop)) .stop) .stop)))))))))))))) Ax (by kernel_rfl) (fun wd kd ed => ⟨Ext wd, ?_, ?_⟩)
   ·exact Ext.refl _
   have e0 : ∀ (i : Nat) (u : Value), w.cell? ⟨b, i, none⟩ = some u → wd.cell? ⟨b, i, none⟩ = some u := fun i u hu => kd.cell (k2.cell (n1.keep.cell hu (by simp)) (by simpa using hbn)) (by simp)
   have s0 : ∀ V, Ext wd V → V.cell? ⟨b, o + 0, none⟩ = some (.int .i64 op) := fun V e => e.cell (e0 _ _ q0) (by simp)
   have s1 : ∀ V, Ext wd V → V.cell? ⟨b, o + 1, none⟩ = some (An nm) := fun V e => e.cell (e0 _ _ q1) (by simp)
   have s2 : ∀ V, Ext wd V → V.cell? ⟨b, o + 2, none⟩ = some (.int .i64 v) := fun V e => e.cell (e0 _ _ q2) (by simp)
   refine D_R rfl rfl (fun W hW => AP rfl Z3) (D_R rfl rfl (fun W hW => AH rfl Z3) (D_R rfl rfl (fun W hW => AD rfl Z3) (D_R rfl rfl (fun W hW => AF rfl (s0 W hW) Z3) (D_R rfl rfl (fun W hW => AP rfl Z3) (D_R rfl rfl (fun W hW => AH rfl Z3) (D_R rfl rfl (fun W hW => AD rfl Z3) (D_R rfl rfl (fun W hW => AF rfl (s1 W hW) Z3) (D_R rfl rfl (fun W hW => AP rfl Z3) (D_R rfl rfl (fun W hW => AH rfl Z3) (D_R rfl rfl (fun W hW => AD rfl Z3) (D_R rfl rfl (fun W hW => AF rfl (s2 W hW) Z3) ?_)))))))))))
   refine D_leaf (α := Unit) (.alt 15 .done .stop) (fun _ => [(0, pt bb), (1, .pointer (some ⟨b, o, none⟩)), (2, .bool false), (3, .int .i64 d), (8, pt w.heap.size), (9, pt wd.heap.size), (106, .agg #[.int .i64 (fullM op), An nm, .int .i64 v, .int .i64 0, .slice none 0 0])]) (fun _ W => New wd W 25 zero5) ?_ (fun leaf => ?_)
   ·rintro _ f' W n4
    refine D_E rfl ?_
    refine AU (cs := [.int .i64 (fullM op), An nm, .int .i64 v, .int .i64 0, .slice none 0 0]) rfl rfl rfl (Ap rfl) n4.blk (by simp [zero5]) (fun w5 p5 => ?_)
    refine AO ⟨Ext wd, fun _ e => e, n4.keep.keep p5.keep (by simp), ?_⟩
    refine Ah ?_
    clear s0 s1 s2
    have zd := kd.size
    have z4 := n4.size
    have z5 := p5.size
    obtain ⟨c5, hc5⟩ : ∃ c5, c5 = wd.heap.size := ⟨_, rfl⟩
    have c5b : Blk w5 c5 25 [.int .i64 (fullM op), An nm, .int .i64 v, .int .i64 0, .slice none 0 0] := by rw [hc5]; exact p5.blk
    have kd5 : Ext wd w5 := n4.keep.keep p5.keep (by simp)
    have k15 : Keep [bb] w1 w5 := (k2.ext kd).ext kd5
    have k05 : Keep [bb] w w5 := n1.keep.any.trans k15 (fun _ h _ => h)
    have hb5 := (hb2.keep kd (by simp)).keep kd5 (by simp)
    have zb5 := n1.blk.keep k15 (by simp; omega)
    rw [← hc5]
    have hc5w : w1.heap.size ≤ c5 := by omega
    have hc5l : c5 < w5.heap.size := c5b.lt
    clear n4 p5 kd5 hb2 kd ed e0
    have q05 := k05.cell q0 (by simpa using hbn)
    repeat refine nx rfl ?_
    refine AA (AB rfl ?_)
    repeat first | refine nx rfl ?_ | refine nf rfl ?_
    (refine AA (AP rfl (AH rfl (AD rfl (AF rfl (by assumption) ?_)))) <;> refine AO ?_)
    refine Q_then ?_
    refine Cn (α := Value × List (List Value)) (fun _ => [(0, pt bb), (1, .pointer (some ⟨b, o, none⟩)), (2, .bool false), (3, .int .i64 d), (8, pt w.heap.size), (9, pt c5)])
     (fun y W => Keep [bb] w W ∧ Blk W bb 107 [.int .i64 (l - (if op = 11 ∨ op = 12 then 2 else 1)), .bool false] ∧ Bld w1 W c5 (fullM op) nm v 0 (Cq op) y.1 y.2 ∧ Blk W w.heap.size 25 zero5 ∧ c5 < W.heap.size) ?_ ?_
    ·obtain ⟨W, hW⟩ : ∃ W, W = w5 := ⟨_, rfl⟩
     rw [← hW] at k05 hb5 zb5 c5b hc5l q05 ⊢
     have kW := k05
     have hbW := hb5
     have zW := zb5
     have cW := c5b
     have zz : w1.heap.size ≤ W.heap.size := by omega
     repeat refine nx rfl ?_
     refine AA (AT rfl rfl (by omega) (AC (AB rfl ?_)))
     repeat first | refine nx rfl ?_ | refine nf rfl ?_
     refine AA (AT rfl rfl (by omega) (AC (AB rfl ?_)))
     repeat first | refine nx rfl ?_ | refine nf rfl ?_
     refine AA (AT rfl rfl (by omega) (AC (AB rfl ?_)))
     repeat first | refine nx rfl ?_ | refine nf rfl ?_
     by_cases h11 : op = 11
     ·subst h11
      rw [if_pos (.inl rfl)]
      have hl3 : (2 : Int) ≤ l := by rw [if_pos (.inl rfl)] at hl; omega
      refine AA (Ai rfl rfl (by omega) (AC (AB rfl ?_)))
      repeat refine nx rfl ?_
      refine AA (AP rfl (AG rfl ?_))
      refine AQ (lone_ok W bb c5 (l - 1) d _ v nm (by omega) hbW (by omega) (by omega) (by omega) hd2 (by simp [fullM]) cW) rfl ?_
      rintro u w5 ⟨k5, hb5, v8, c8, o8⟩
      repeat refine nx rfl ?_
      have hv8 : ∀ g, v8.ownBlock = some g → W.heap.size ≤ g := fun g hg => (Aw o8 hg).1
      exact A0 (v8, _) ⟨rfl, rfl, rfl, rfl, rfl, rfl, trivial⟩ ⟨kW.trans k5 (fun y hy hlt => by simp at hy; rcases hy with rfl | rfl; simp; omega), by rw [show l - 2 = l - 1 - 1 by omega]; exact hb5, ⟨c8, ownsRow_mono o8 (by omega), FsAt.one (FAt.leaf _ _ _ [] 0 0) rfl, fun g hg => by have := hv8 g hg; omega⟩, zW.keep k5 (by simp; omega), by have := k5.size; omega⟩
     ·by_cases h12 : op = 12
      ·subst h12
       rw [if_pos (.inr rfl)]
       have hl3 : (2 : Int) ≤ l := by rw [if_pos (.inr (.inl rfl))] at hl; omega
       refine AA (AT rfl rfl (by omega) (AC (AB rfl ?_)))
       repeat first | refine nx rfl ?_ | refine nf rfl ?_
       refine AA (Ai rfl rfl (by omega) (AC (AB rfl ?_)))
       repeat refine nx rfl ?_
       refine AA (AP rfl (AG rfl ?_))
       refine AQ (lone_ok W bb c5 (l - 1) d _ v nm (by omega) hbW (by omega) (by omega) (by omega) hd2 (by simp [fullM]) cW) rfl ?_
       rintro u w5 ⟨k5, hb5, v8, c8, o8⟩
       repeat refine nx rfl ?_
       have hv8 : ∀ g, v8.ownBlock = some g → W.heap.size ≤ g := fun g hg => (Aw o8 hg).1
       exact A0 (v8, _) ⟨rfl, rfl, rfl, rfl, rfl, rfl, trivial⟩ ⟨kW.trans k5 (fun y hy hlt => by simp at hy; rcases hy with rfl | rfl; simp; omega), by rw [show l - 2 = l - 1 - 1 by omega]; exact hb5, ⟨c8, ownsRow_mono o8 (by omega), FsAt.one (FAt.leaf _ _ _ [] 0 0) rfl, fun g hg => by have := hv8 g hg; omega⟩, zW.keep k5 (by simp; omega), by have := k5.size; omega⟩
      ·rw [if_neg (by omega)]
       refine AA (AT rfl rfl (by omega) (AC (AB rfl ?_)))
       repeat first | refine nx rfl ?_ | refine nf rfl ?_
       refine AA (AT rfl rfl (by omega) (AC (AB rfl ?_)))
       repeat first | refine nx rfl ?_ | refine nf rfl ?_
       refine AA (AT rfl rfl (by omega) (AC (AB rfl ?_)))
       repeat first | refine nx rfl ?_ | refine nf rfl ?_
       refine AA (AT rfl rfl (by omega) (AC (AB rfl ?_)))
       repeat first | refine nx rfl ?_ | refine nf rfl ?_
       have hpre : Cq op = [] := by unfold Cq; rw [if_neg h11, if_neg h12]
       rw [hpre]
       exact A0 (.slice none 0 0, []) ⟨rfl, rfl, rfl, rfl, rfl, rfl, trivial⟩ ⟨kW, hbW, Bld.start cW, zW, hc5l⟩
    rintro ⟨v0, L0⟩ W0 f2 ⟨kW0, hbW0, bW0, zW0, hcW0⟩
    simp only at bW0
    have q4W := kW0.cell q4 (by simpa using hbn)
    have z0w := kW0.size
    repeat refine nx rfl ?_
    (refine AA (AP rfl (AH rfl (AD rfl (AF rfl (by assumption) ?_)))) <;> refine AZ rfl (AG rfl ?_))
    repeat refine nx rfl ?_
    obtain ⟨pn, hpn⟩ : ∃ pn : Int, pn = if op = 11 ∨ op = 12 then 2 else 1 := ⟨_, rfl⟩
    have hpn1 : (1 : Int) ≤ pn := by rw [hpn]; split <;> omega
    rw [← hpn] at hbW0
    have hlF : pn + (if op = 7 then 1 else 0) + (cstL args : Int) ≤ l := by
     rw [hpn]
     by_cases h7 : op = 7
     ·rw [if_pos (by omega)] at hl; rw [if_neg (by omega), if_pos h7]; omega
     ·by_cases h12 : op = 11 ∨ op = 12
      ·rw [if_pos (by omega)] at hl; rw [if_pos h12, if_neg h7]; omega
      ·rw [if_neg (by omega)] at hl; rw [if_neg h12, if_neg h7]; omega
    have hkl := kargs_len op args
    refine A3 (α := Nat × Value × List (List Value)) (fun y => [(0, pt bb), (1, .pointer (some ⟨b, o, none⟩)), (2, .bool false), (3, .int .i64 d), (8, pt w.heap.size), (9, pt c5), (139, .int .i64 (args.length : Int)), (140, .int .i64 (y.1 : Int))])
     (fun y W => y.1 ≤ args.length ∧ Keep [bb] w W ∧ Blk W bb 107 [.int .i64 (l - pn - (cstL (args.take y.1) : Int) - if op = 7 ∧ 0 < y.1 then 1 else 0), .bool false] ∧ Bld w1 W c5 (fullM op) nm v 0 (Cq op ++ (B3 op args).take y.1) y.2.1 y.2.2 ∧ Blk W w.heap.size 25 zero5 ∧ c5 < W.heap.size) (fun y => args.length - y.1) (0, v0, L0) ⟨rfl, rfl, rfl, rfl, rfl, rfl, rfl, rfl, trivial⟩
     ⟨by simp, kW0, by simpa [cstL] using hbW0, by simpa using bW0, zW0, hcW0⟩ ?_
    rintro ⟨k, v0, L0⟩ W fr ⟨hk, kW, hbW, bW, zW, hcW⟩
    simp only at hk kW hbW bW zW hcW
    have q4W := kW.cell q4 (by simpa using hbn)
    have q0W := kW.cell q0 (by simpa using hbn)
    repeat refine nx rfl ?_
    by_cases hlt : k < args.length
    ·refine AA (At rfl rfl (by omega) ?_)
     repeat refine nx rfl ?_
     refine AA (AG rfl (AC (AG rfl ?_)))
     repeat refine nx rfl ?_
     obtain ⟨x, hx⟩ : ∃ x, args[k]? = some x := ⟨_, List.getElem?_eq_getElem hlt⟩
     obtain ⟨turn, hturn⟩ : ∃ turn, turn = decide (op = 7 ∧ k = 0) := ⟨_, rfl⟩
     refine Cn (α := Unit) (fun _ => [(0, pt bb), (1, .pointer (some ⟨b, o, none⟩)), (2, .bool false), (3, .int .i64 d), (8, pt w.heap.size), (9, pt c5), (10, .int .i64 (k : Int)), (11, .bool turn), (139, .int .i64 (args.length : Int)), (140, .int .i64 (k : Int))]) (fun _ W' => W' = W) ?_ ?_
     ·by_cases h7 : op = 7
      ·by_cases hk0 : k = 0
       ·rw [hturn, decide_eq_true ⟨h7, hk0⟩]
        (refine AA (AB rfl (AP rfl (AH rfl (AD rfl (AF rfl (by assumption) ?_))))) <;> refine Ai rfl rfl (by omega) (AB rfl (AE rfl (AG rfl (AE rfl (Ai rfl rfl (by omega) (AK rfl (AB rfl (W_bneq rfl rfl (AC (AB rfl (AO ?_))))))))))))
        exact A0 () ⟨rfl, rfl, rfl, rfl, rfl, rfl, rfl, rfl, rfl, rfl, trivial⟩ rfl
       ·rw [hturn, decide_eq_false (fun h => hk0 h.2)]
        (refine AA (AB rfl (AP rfl (AH rfl (AD rfl (AF rfl (by assumption) ?_))))) <;> refine Ai rfl rfl (by omega) (AB rfl (AE rfl (AG rfl (AE rfl (AT rfl rfl (by omega) (AK rfl (AB rfl (W_bneq rfl rfl (AC (AB rfl (AO ?_))))))))))))
        exact A0 () ⟨rfl, rfl, rfl, rfl, rfl, rfl, rfl, rfl, rfl, rfl, trivial⟩ rfl
      ·rw [hturn, decide_eq_false (fun h => h7 h.1)]
       (refine AA (AB rfl (AP rfl (AH rfl (AD rfl (AF rfl (by assumption) ?_))))) <;> refine AT rfl rfl (by omega) (AB rfl (AL rfl (AL rfl (AJ rfl (AB rfl (W_bneq rfl rfl (AC (AB rfl (AO ?_))))))))))
       exact A0 () ⟨rfl, rfl, rfl, rfl, rfl, rfl, rfl, rfl, rfl, rfl, trivial⟩ rfl
     rintro _ _ f3 e3
     rw [e3]
     clear e3
     obtain ⟨b', o', haa, hpx⟩ := qa k x hx
     subst haa
     have hmx := List.mem_of_getElem? hx
     have hdx := Bp hmx
     have hzx := BY hmx
     have hct := cstL_take hx
     have hcl := cstL_le args (k + 1)
     have htx : turn = true → x.op = 3 := fun h => by
      rw [hturn, decide_eq_true_eq] at h
      have h2 := (p6 (.inr h.1)).2
      rw [List.getD_eq_getElem?_getD, ← h.2, hx] at h2
      exact h2
     obtain ⟨lk, hlkd⟩ : ∃ lk, lk = l - pn - (cstL (args.take k) : Int) - if op = 7 ∧ 0 < k then 1 else 0 := ⟨_, rfl⟩
     rw [← hlkd] at hbW
     have hbit : (if turn then (1 : Int) else 0) = (if op = 7 ∧ 0 < k + 1 then 1 else 0) - if op = 7 ∧ 0 < k then 1 else 0 := by
      rw [hturn]
      by_cases h7 : op = 7
      ·by_cases hk0 : k = 0
       ·subst hk0; simp [h7]
       ·simp [h7, hk0, show 0 < k by omega]
      ·simp [h7]
     have hlk : (cst x : Int) + (if turn then 1 else 0) ≤ lk := by
      rw [hbit, hlkd]
      by_cases h7 : op = 7
      ·rw [if_pos h7] at hlF; split <;> split <;> omega
      ·rw [if_neg h7] at hlF; rw [if_neg (fun h => h7 h.1), if_neg (fun h => h7 h.1)]; omega
     have hlk2 : lk ≤ l := by rw [hlkd]; split <;> omega
     have hnl : (Cq op ++ (B3 op args).take k).length + 1 ≤ 1002 := by
      have h1 : (Cq op).length ≤ 1 := by unfold Cq; split; simp; split <;> simp
      simp only [List.length_append, List.length_take]; omega
     repeat refine nx rfl ?_
     refine Ad (.read 0 (.read 2 (.read 3 (.read 4 (.read 5 (.read 6 (.read 7 (.read 8 (.read 9 (.read 10 (.read 11 (.alt 1 (.read 13 (.alt 12 (.alt 14 (.alt 15 (.read 16 (.read 18 (.alt 17 (.alt 19 .done .stop) (.alt 19 (.alt 17 .done .stop) .stop)))) .stop) .stop) (.alt 14 (.alt 12 (.alt 15 (.read 16 (.read 18 (.alt 17 (.alt 19 .done .stop) (.alt 19 (.alt 17 .done .stop) .stop)))) .stop) .stop) .stop))) (.alt 12 (.alt 1 (.read 13 (.alt 14 (.alt 15 (.read 16 (.read 18 (.alt 17 (.alt 19 .done .stop) (.alt 19 (.alt 17 .done .stop) .stop)))) .stop) .stop)) (.alt 14 (.alt 1 (.read 13 (.alt 15 (.read 16 (.read 18 (.alt 17 (.alt 19 .done .stop) (.alt 19 (.alt 17 .done .stop) .stop)))) .stop)) .stop) .stop)) (.alt 14 (.alt 1 (.read 13 (.alt 12 (.alt 15 (.read 16 (.read 18 (.alt 17 (.alt 19 .done .stop) (.alt 19 (.alt 17 .done .stop) .stop)))) .stop) .stop)) (.alt 12 (.alt 1 (.read 13 (.alt 15 (.read 16 (.read 18 (.alt 17 (.alt 19 .done .stop) (.alt 19 (.alt 17 .done .stop) .stop)))) .stop)) .stop) .stop)) .stop)))))))))))))) Ax (by kernel_rfl) (fun wd kd ed => ⟨fun V => V.cell? ⟨b, o + 4, none⟩ = some (.slice (some ⟨b', o', none⟩) args.length cc), ?_, ?_⟩)
     ·exact kd.cell q4W (by simp)
     have ca : ∀ V : World, V.cell? ⟨b, o + 4, none⟩ = some (.slice (some ⟨b', o', none⟩) args.length cc) → V.cell? ⟨b, o + 4, none⟩ = some (.slice (some ⟨b', o', none⟩) args.length cc) := fun V e => e
     (refine D_R rfl rfl (fun W hW => AD rfl Z3) (D_R rfl rfl (fun W hW => AP rfl Z3) (D_R rfl rfl (fun W hW => AP rfl Z3) (D_R rfl rfl (fun W hW => AH rfl Z3) (D_R rfl rfl (fun W hW => AD rfl Z3) (D_R rfl rfl (fun W hW => AF rfl (ca W hW) Z3) (D_R rfl rfl (fun W hW => AG rfl Z3) (D_R rfl rfl (fun W hW => Au rfl rfl rfl (by omega) Z3) (D_R rfl rfl (fun W hW => AB rfl Z3) (D_R rfl rfl (fun W hW => AG rfl Z3) ?_))))))))) <;> (apply D_R rfl rfl; (intro W hW; refine Cy rfl rfl (by first | exact AV (by omega) (by omega) | exact AY (by omega) (by omega) | exact AW (by omega) (by omega)) ?_; exact Z3)))
     have kd0 : Keep [bb] w wd := kW.ext kd
     have bd' := bW.ext kd
     have zd0 := zW.keep kd (by simp)
     have zdz := kd.size
     have kwd : Keep [bb] wd wd := Keep.refl _ _
     have bwd := hbW.keep kd (by simp)
     have cwd := bd'.blk
     have swd : wd.cell? ⟨b, o + 4, none⟩ = some (.slice (some ⟨b', o', none⟩) args.length cc) := kd.cell q4W (by simp)
     have hxk : ∀ V, Keep [bb] wd V → PF (fun b => b ≠ bb) V b' (o' + k * 5) x := fun V e => hpx.keep (kd0.trans e (fun _ h _ => h)) (fun y hy hm => by simp at hm; exact hy hm)
     have xwd := hxk wd kwd
     have htk : Cq op ++ (B3 op args).take (k + 1) = (Cq op ++ (B3 op args).take k) ++ [if turn then nIs x else kerP x] := by
      rw [List.take_add_one, kargs_at hx, hturn, List.append_assoc]
      by_cases h : op = 7 ∧ k = 0
      ·rw [if_pos h, decide_eq_true h]; rfl
      ·rw [if_neg h, decide_eq_false h]; rfl
     obtain ⟨vp, vc, rfl⟩ : ∃ p c, v0 = .slice p (Cq op ++ (B3 op args).take k).length c := by
      rcases bd'.own.2 with ⟨e, h0⟩ | ⟨g, cap, cur, e, _⟩
      ·exact ⟨none, 0, by rw [e, h0]⟩
      ·exact ⟨_, _, e⟩
     have hv0 : ∀ g, (Value.slice vp (Cq op ++ (B3 op args).take k).length vc).ownBlock = some g → w1.heap.size ≤ g ∧ g < wd.heap.size ∧ g ≠ c5 := fun g hg => ⟨(Aw bd'.own hg).1, (Aw bd'.own hg).2, bd'.ne g hg⟩
     have hX0 : ∀ y ∈ (Value.slice vp (Cq op ++ (B3 op args).take k).length vc).ownBlock.toList, w1.heap.size ≤ y ∧ y < wd.heap.size ∧ y ≠ c5 := fun y hy => hv0 y (Option.mem_toList.1 hy)
     refine D_leaf (α := Value × List Value) (.read 16 (.read 18 (.alt 17 (.alt 19 .done .stop) (.alt 19 (.alt 17 .done .stop) .stop)))) (fun y => [(0, pt bb), (1, .pointer (some ⟨b, o, none⟩)), (2, .bool false), (3, .int .i64 d), (8, pt w.heap.size), (9, pt c5), (139, .int .i64 (args.length : Int)), (140, .int .i64 (k : Int)), (166, .agg y.2.toArray), (167, .int .i64 ((Cq op ++ (B3 op args).take k).length : Int)), (169, y.1)])
      (fun y V => Keep [bb] w V ∧ Blk V bb 107 [.int .i64 (lk - ((cst x : Int) + if turn then 1 else 0)), .bool false] ∧ Blk V c5 25 [.int .i64 (fullM op), An nm, .int .i64 v, .int .i64 0, .slice vp (Cq op ++ (B3 op args).take k).length vc] ∧ V.ownsRow w1.heap.size 25 5 y.1 ((Cq op ++ (B3 op args).take k).length + 1) (L0.flatten ++ zero5) ∧ y.2.length = 5 ∧ oneC y.2 ∧ (∀ g, y.1.ownBlock = some g → g ≠ c5) ∧
       FAt (fun b => (w1.heap.size ≤ b ∧ b ≠ c5) ∧ y.1.ownBlock ≠ some b) V (.agg y.2.toArray) (if turn then nIs x else kerP x) ∧ FsAt (fun b => (w1.heap.size ≤ b ∧ b ≠ c5) ∧ y.1.ownBlock ≠ some b) V L0 (Cq op ++ (B3 op args).take k) ∧ Blk V w.heap.size 25 zero5 ∧ c5 < V.heap.size) ?_ (fun leaf => ?_)
     ·rintro ⟨v8, cs⟩ f' V ⟨kV, bV, cV, oV, hcs, hone, hvn, fV, sV, zV, lV⟩
      simp only at oV hcs hone hvn fV sV
      obtain ⟨g, cap8, M, rfl, hg, bM, hM, q1', q2'⟩ := own_set (cs := cs) oV (by rw [bd'.fs.flat]) hcs cV hvn
      have hgb : g ≠ bb := by omega
      have hgc : g ≠ c5 := hvn g rfl
      have sV4 := kV.cell q4 (by simpa using hbn)
      have htw := kV.size
      refine D_R rfl rfl (fun U hU => by refine Au (k := (Cq op ++ (B3 op args).take k).length) rfl rfl rfl (by omega) ?_; exact AO ⟨rfl, rfl, rfl⟩) ?_
      refine D_R rfl rfl (fun U hU => by refine AD rfl ?_; exact AO ⟨rfl, rfl, rfl⟩) ?_
      refine D_A rfl ?_ (D_E rfl ?_)
      ·refine AU (o := 0 + (Cq op ++ (B3 op args).take k).length * 5) (cs := cs) rfl rfl hcs hone bM (by omega) (fun w8 p8 => ?_)
       refine AO ⟨_, fun _ h => h, p8.keep.cell sV4 (by simp; omega), ?_⟩
       refine D_E rfl ?_
       refine Aa rfl rfl rfl (cV.keep p8.keep (by simpa using hgc.symm)) (by simp) (fun w9 p9 => ?_)
       refine AO ⟨_, fun _ h => h, p9.keep.cell (p8.keep.cell sV4 (by simp; omega)) (by simp; omega), ?_⟩
       refine Ah ?_
       rw [Nat.zero_add] at p8
       obtain ⟨kE, cE, oE⟩ := q1' w8 w9 p8 p9
       repeat refine nx rfl ?_
       (refine AA (Av rfl rfl (by first | exact AV (by omega) (by omega) | exact AY (by omega) (by omega) | exact AW (by omega) (by omega)) ?_) <;> refine AG rfl ?_)
       repeat refine nx rfl ?_
       refine ⟨(k + 1, .slice (some ⟨g, 0, none⟩) _ cap8, L0 ++ [cs]), ⟨rfl, ⟨rfl, rfl, rfl, rfl, rfl, rfl, rfl, ?_, trivial⟩, ⟨by simp only; omega, kV.trans kE (fun y hy hlt => by simp at hy; rcases hy with rfl | rfl; omega; omega), ?_, ⟨cE, ?_, ?_, fun g' hg' => hvn g' hg'⟩, zV.keep kE (by simp; omega), by have := kE.size; omega⟩⟩, by simp only; omega⟩
       ·show Value.int .i64 ((k : Int) + 1) = _
        rw [Int.natCast_add]; rfl
       ·have := bV.keep kE (by simp; omega)
        simp only
        rw [show l - pn - (cstL (args.take (k + 1)) : Int) - (if op = 7 ∧ 0 < k + 1 then 1 else 0) = lk - ((cst x : Int) + if turn then 1 else 0) by rw [hbit, hct, hlkd]; omega]
        exact this
       ·simp only
        rw [htk]
        exact own_snoc oE
       ·simp only
        rw [htk]
        exact (sV.snoc fV hcs).keep kE (fun y hy hm => by simp at hm; rcases hm with rfl | rfl; exact hy.2 rfl; exact hy.1.2 rfl)
      ·refine Aa rfl rfl rfl cV (by simp) (fun w8 p8 => ?_)
       refine AO ⟨_, fun _ h => h, p8.keep.cell sV4 (by simp; omega), ?_⟩
       refine D_E rfl ?_
       refine AU (o := 0 + (Cq op ++ (B3 op args).take k).length * 5) (cs := cs) rfl rfl hcs hone (bM.keep p8.keep (by simpa using hgc)) (by omega) (fun w9 p9 => ?_)
       refine AO ⟨_, fun _ h => h, p9.keep.cell (p8.keep.cell sV4 (by simp; omega)) (by simp; omega), ?_⟩
       refine Ah ?_
       rw [Nat.zero_add] at p9
       obtain ⟨kE, cE, oE⟩ := q2' w8 w9 p8 p9
       repeat refine nx rfl ?_
       (refine AA (Av rfl rfl (by first | exact AV (by omega) (by omega) | exact AY (by omega) (by omega) | exact AW (by omega) (by omega)) ?_) <;> refine AG rfl ?_)
       repeat refine nx rfl ?_
       refine ⟨(k + 1, .slice (some ⟨g, 0, none⟩) _ cap8, L0 ++ [cs]), ⟨rfl, ⟨rfl, rfl, rfl, rfl, rfl, rfl, rfl, ?_, trivial⟩, ⟨by simp only; omega, kV.trans kE (fun y hy hlt => by simp at hy; rcases hy with rfl | rfl; omega; omega), ?_, ⟨cE, ?_, ?_, fun g' hg' => hvn g' hg'⟩, zV.keep kE (by simp; omega), by have := kE.size; omega⟩⟩, by simp only; omega⟩
       ·show Value.int .i64 ((k : Int) + 1) = _
        rw [Int.natCast_add]; rfl
       ·have := bV.keep kE (by simp; omega)
        simp only
        rw [show l - pn - (cstL (args.take (k + 1)) : Int) - (if op = 7 ∧ 0 < k + 1 then 1 else 0) = lk - ((cst x : Int) + if turn then 1 else 0) by rw [hbit, hct, hlkd]; omega]
        exact this
       ·simp only
        rw [htk]
        exact own_snoc oE
       ·simp only
        rw [htk]
        exact (sV.snoc fV hcs).keep kE (fun y hy hm => by simp at hm; rcases hm with rfl | rfl; exact hy.2 rfl; exact hy.1.2 rfl)
     refine D_A rfl ?_ (D_A rfl ?_ (D_E rfl ?_))
     ·refine AF rfl (cwd.cell (o := 4) rfl) ?_
      refine AO ⟨_, fun _ h => h, swd, ?_⟩
      ((apply D_R rfl rfl; (intro W hW; refine AZ rfl ?_; exact AO ⟨rfl, rfl, rfl⟩)))
      refine D_A rfl ?_ (D_E rfl ?_)
      ·refine AQ (ih wd b' (o' + k * 5) x turn lk (d - 1) (by omega) (by omega) (xwd) (p7 x hmx) htx bwd hlk (by omega) (by omega) (by omega)) rfl ?_
       rintro u8 wA ⟨kc, bA, f8⟩
       obtain ⟨cs, rfl, hcs, hone⟩ := f8.cells
       obtain ⟨x0, x1, x2, x3, x4, rfl⟩ := A7 hcs
       have kA : Keep [bb] wd wA := kwd.trans kc (fun _ h _ => h)
       have cA := cwd.keep kc (by simp; omega)
       have sA := kc.cell swd (by simpa using hbn)
       have gA : FAt (fun b => wd.heap.size ≤ b) wA (.agg [x0, x1, x2, x3, x4].toArray) (if turn then nIs x else kerP x) := f8.mono fun y hy => Nat.le_trans kwd.size hy
       refine AO ⟨_, fun _ h => h, sA, ?_⟩
       refine D_E rfl ?_
       refine Ab (out := zero5) rfl (by omega) (by rw [CV]; rfl) (fun wB n9 => ?_)
       have kB : Keep [bb] wd wB := kA.ext n9.keep
       have cB := cA.keep n9.keep (by simp)
       have bB := bA.keep n9.keep (by simp)
       have sB := n9.keep.cell sA (by simp)
       have oz := n9.own (n := 1) (size := 5) rfl (by unfold maxLen; omega) (Nat.le_refl _)
       refine AO ⟨_, fun _ h => h, sB, ?_⟩
       have gB := gA.keep n9.keep (fun _ _ => by simp)
       refine D_E rfl ?_
       refine BD (ok := As) (v := .slice vp (Cq op ++ (B3 op args).take k).length vc) rfl rfl (Ag bd'.own kB (fun g hg hm => by have := (Aw bd'.own hg).1; simp at hm; omega)) (Az (oz) fun _ _ => trivial) (by omega) rfl rfl (Ap rfl) (by omega) (by omega) (by have := kB.size; omega) (fun v8 w8 a8 => ?_)
       refine AO ⟨_, fun _ h => h, a8.keep.cell sB (fun hy => by have := (hX0 _ hy).1; omega), ?_⟩
       have zk := kB.size
       have hv8 : ∀ g, v8.ownBlock = some g → w1.heap.size ≤ g ∧ g ≠ c5 ∧ ((Value.slice vp (Cq op ++ (B3 op args).take k).length vc).ownBlock = some g ∨ wB.heap.size ≤ g) := fun g hg => by
        rcases a8.blk with e | e
        ·rw [e] at hg; exact ⟨(hv0 g hg).1, (hv0 g hg).2.2, .inl hg⟩
        ·rw [e] at hg; obtain rfl := Option.some.inj hg; exact ⟨by omega, by omega, .inr (Nat.le_refl _)⟩
       exact leaf (v8, [x0, x1, x2, x3, x4]) _ _ ⟨rfl, rfl, rfl, rfl, rfl, rfl, rfl, rfl, rfl, rfl, rfl, trivial⟩ ⟨(kd0.trans kB (fun _ h _ => h)).trans a8.keep (fun y hy hlt => by have := (hX0 y hy).1; omega), bB.keep a8.keep (fun hy => by have := (hX0 _ hy).1; omega), cB.keep a8.keep (fun hy => (hX0 _ hy).2.2 rfl), a8.own, rfl, hone, (fun g hg => (hv8 g hg).2.1),
        (gB.lt.keep a8.keep (fun y hy hm => by have := (hX0 y hm).2.1; have := hy.1; omega)).mono fun y hy => ⟨⟨by have := hy.1; omega, by have := hy.1; omega⟩, fun e => by have h1 := (hv8 y e).2.2; have h2 := hy.1; have h3 := hy.2; rcases h1 with h1 | h1; have := (hv0 y h1).2.1; omega; omega⟩,
        ((bd'.fs.lt.keep kB (fun y hy hm => by have := hy.1.1.1; simp at hm; omega)).keep a8.keep (fun y hy hm => hy.1.2 (Option.mem_toList.1 hm))).mono fun y hy => ⟨hy.1.1, fun e => by have h1 := (hv8 y e).2.2; have h2 := hy.2; rcases h1 with h1 | h1; exact hy.1.2 h1; omega⟩,
        (zd0.keep kB (by simp; omega)).keep a8.keep (fun hy => by have := (hX0 _ hy).1; omega), by have := a8.keep.size; omega⟩
      ·refine Ab (out := zero5) rfl (by omega) (by rw [CV]; rfl) (fun wA n9 => ?_)
       have kA : Keep [bb] wd wA := kwd.ext n9.keep
       have cA := cwd.keep n9.keep (by simp)
       have bA := bwd.keep n9.keep (by simp)
       have sA := n9.keep.cell swd (by simp)
       have oz := n9.own (n := 1) (size := 5) rfl (by unfold maxLen; omega) (Nat.le_refl _)
       refine AO ⟨_, fun _ h => h, sA, ?_⟩
       have xA := hxk wA kA
       refine D_E rfl ?_
       refine AQ (ih wA b' (o' + k * 5) x turn lk (d - 1) (by omega) (by omega) (xA) (p7 x hmx) htx bA hlk (by omega) (by omega) (by omega)) rfl ?_
       rintro u8 wB ⟨kc, bB, f8⟩
       obtain ⟨cs, rfl, hcs, hone⟩ := f8.cells
       obtain ⟨x0, x1, x2, x3, x4, rfl⟩ := A7 hcs
       have kB : Keep [bb] wd wB := kA.trans kc (fun _ h _ => h)
       have cB := cA.keep kc (by simp; omega)
       have sB := kc.cell sA (by simpa using hbn)
       have gB : FAt (fun b => wd.heap.size ≤ b) wB (.agg [x0, x1, x2, x3, x4].toArray) (if turn then nIs x else kerP x) := f8.mono fun y hy => Nat.le_trans kA.size hy
       refine AO ⟨_, fun _ h => h, sB, ?_⟩
       have ozB := Ag oz kc (fun g hg hm => by have := (Aw oz hg).1; simp at hm; omega)
       refine D_E rfl ?_
       refine BD (ok := As) (v := .slice vp (Cq op ++ (B3 op args).take k).length vc) rfl rfl (Ag bd'.own kB (fun g hg hm => by have := (Aw bd'.own hg).1; simp at hm; omega)) (Az (ozB) fun _ _ => trivial) (by omega) rfl rfl (Ap rfl) (by omega) (by omega) (by have := kB.size; omega) (fun v8 w8 a8 => ?_)
       refine AO ⟨_, fun _ h => h, a8.keep.cell sB (fun hy => by have := (hX0 _ hy).1; omega), ?_⟩
       have zk := kB.size
       have hv8 : ∀ g, v8.ownBlock = some g → w1.heap.size ≤ g ∧ g ≠ c5 ∧ ((Value.slice vp (Cq op ++ (B3 op args).take k).length vc).ownBlock = some g ∨ wB.heap.size ≤ g) := fun g hg => by
        rcases a8.blk with e | e
        ·rw [e] at hg; exact ⟨(hv0 g hg).1, (hv0 g hg).2.2, .inl hg⟩
        ·rw [e] at hg; obtain rfl := Option.some.inj hg; exact ⟨by omega, by omega, .inr (Nat.le_refl _)⟩
       exact leaf (v8, [x0, x1, x2, x3, x4]) _ _ ⟨rfl, rfl, rfl, rfl, rfl, rfl, rfl, rfl, rfl, rfl, rfl, trivial⟩ ⟨(kd0.trans kB (fun _ h _ => h)).trans a8.keep (fun y hy hlt => by have := (hX0 y hy).1; omega), bB.keep a8.keep (fun hy => by have := (hX0 _ hy).1; omega), cB.keep a8.keep (fun hy => (hX0 _ hy).2.2 rfl), a8.own, rfl, hone, (fun g hg => (hv8 g hg).2.1),
        (gB.lt.keep a8.keep (fun y hy hm => by have := (hX0 y hm).2.1; have := hy.1; omega)).mono fun y hy => ⟨⟨by have := hy.1; omega, by have := hy.1; omega⟩, fun e => by have h1 := (hv8 y e).2.2; have h2 := hy.1; have h3 := hy.2; rcases h1 with h1 | h1; have := (hv0 y h1).2.1; omega; omega⟩,
        ((bd'.fs.lt.keep kB (fun y hy hm => by have := hy.1.1.1; simp at hm; omega)).keep a8.keep (fun y hy hm => hy.1.2 (Option.mem_toList.1 hm))).mono fun y hy => ⟨hy.1.1, fun e => by have h1 := (hv8 y e).2.2; have h2 := hy.2; rcases h1 with h1 | h1; exact hy.1.2 h1; omega⟩,
        (zd0.keep kB (by simp; omega)).keep a8.keep (fun hy => by have := (hX0 _ hy).1; omega), by have := a8.keep.size; omega⟩
     ·refine AQ (ih wd b' (o' + k * 5) x turn lk (d - 1) (by omega) (by omega) (xwd) (p7 x hmx) htx bwd hlk (by omega) (by omega) (by omega)) rfl ?_
      rintro u8 wA ⟨kc, bA, f8⟩
      obtain ⟨cs, rfl, hcs, hone⟩ := f8.cells
      obtain ⟨x0, x1, x2, x3, x4, rfl⟩ := A7 hcs
      have kA : Keep [bb] wd wA := kwd.trans kc (fun _ h _ => h)
      have cA := cwd.keep kc (by simp; omega)
      have sA := kc.cell swd (by simpa using hbn)
      have gA : FAt (fun b => wd.heap.size ≤ b) wA (.agg [x0, x1, x2, x3, x4].toArray) (if turn then nIs x else kerP x) := f8.mono fun y hy => Nat.le_trans kwd.size hy
      refine AO ⟨_, fun _ h => h, sA, ?_⟩
      refine D_A rfl ?_ (D_E rfl ?_)
      ·refine AF rfl (cA.cell (o := 4) rfl) ?_
       refine AO ⟨_, fun _ h => h, sA, ?_⟩
       ((apply D_R rfl rfl; (intro W hW; refine AZ rfl ?_; exact AO ⟨rfl, rfl, rfl⟩)))
       refine D_E rfl ?_
       refine Ab (out := zero5) rfl (by omega) (by rw [CV]; rfl) (fun wB n9 => ?_)
       have kB : Keep [bb] wd wB := kA.ext n9.keep
       have cB := cA.keep n9.keep (by simp)
       have bB := bA.keep n9.keep (by simp)
       have sB := n9.keep.cell sA (by simp)
       have oz := n9.own (n := 1) (size := 5) rfl (by unfold maxLen; omega) (Nat.le_refl _)
       refine AO ⟨_, fun _ h => h, sB, ?_⟩
       have gB := gA.keep n9.keep (fun _ _ => by simp)
       refine D_E rfl ?_
       refine BD (ok := As) (v := .slice vp (Cq op ++ (B3 op args).take k).length vc) rfl rfl (Ag bd'.own kB (fun g hg hm => by have := (Aw bd'.own hg).1; simp at hm; omega)) (Az (oz) fun _ _ => trivial) (by omega) rfl rfl (Ap rfl) (by omega) (by omega) (by have := kB.size; omega) (fun v8 w8 a8 => ?_)
       refine AO ⟨_, fun _ h => h, a8.keep.cell sB (fun hy => by have := (hX0 _ hy).1; omega), ?_⟩
       have zk := kB.size
       have hv8 : ∀ g, v8.ownBlock = some g → w1.heap.size ≤ g ∧ g ≠ c5 ∧ ((Value.slice vp (Cq op ++ (B3 op args).take k).length vc).ownBlock = some g ∨ wB.heap.size ≤ g) := fun g hg => by
        rcases a8.blk with e | e
        ·rw [e] at hg; exact ⟨(hv0 g hg).1, (hv0 g hg).2.2, .inl hg⟩
        ·rw [e] at hg; obtain rfl := Option.some.inj hg; exact ⟨by omega, by omega, .inr (Nat.le_refl _)⟩
       exact leaf (v8, [x0, x1, x2, x3, x4]) _ _ ⟨rfl, rfl, rfl, rfl, rfl, rfl, rfl, rfl, rfl, rfl, rfl, trivial⟩ ⟨(kd0.trans kB (fun _ h _ => h)).trans a8.keep (fun y hy hlt => by have := (hX0 y hy).1; omega), bB.keep a8.keep (fun hy => by have := (hX0 _ hy).1; omega), cB.keep a8.keep (fun hy => (hX0 _ hy).2.2 rfl), a8.own, rfl, hone, (fun g hg => (hv8 g hg).2.1),
        (gB.lt.keep a8.keep (fun y hy hm => by have := (hX0 y hm).2.1; have := hy.1; omega)).mono fun y hy => ⟨⟨by have := hy.1; omega, by have := hy.1; omega⟩, fun e => by have h1 := (hv8 y e).2.2; have h2 := hy.1; have h3 := hy.2; rcases h1 with h1 | h1; have := (hv0 y h1).2.1; omega; omega⟩,
        ((bd'.fs.lt.keep kB (fun y hy hm => by have := hy.1.1.1; simp at hm; omega)).keep a8.keep (fun y hy hm => hy.1.2 (Option.mem_toList.1 hm))).mono fun y hy => ⟨hy.1.1, fun e => by have h1 := (hv8 y e).2.2; have h2 := hy.2; rcases h1 with h1 | h1; exact hy.1.2 h1; omega⟩,
        (zd0.keep kB (by simp; omega)).keep a8.keep (fun hy => by have := (hX0 _ hy).1; omega), by have := a8.keep.size; omega⟩
      ·refine Ab (out := zero5) rfl (by omega) (by rw [CV]; rfl) (fun wB n9 => ?_)
       have kB : Keep [bb] wd wB := kA.ext n9.keep
       have cB := cA.keep n9.keep (by simp)
       have bB := bA.keep n9.keep (by simp)
       have sB := n9.keep.cell sA (by simp)
       have oz := n9.own (n := 1) (size := 5) rfl (by unfold maxLen; omega) (Nat.le_refl _)
       refine AO ⟨_, fun _ h => h, sB, ?_⟩
       have gB := gA.keep n9.keep (fun _ _ => by simp)
       refine D_E rfl ?_
       refine AF rfl (cB.cell (o := 4) rfl) ?_
       refine AO ⟨_, fun _ h => h, sB, ?_⟩
       ((apply D_R rfl rfl; (intro W hW; refine AZ rfl ?_; exact AO ⟨rfl, rfl, rfl⟩)))
       refine D_E rfl ?_
       refine BD (ok := As) (v := .slice vp (Cq op ++ (B3 op args).take k).length vc) rfl rfl (Ag bd'.own kB (fun g hg hm => by have := (Aw bd'.own hg).1; simp at hm; omega)) (Az (oz) fun _ _ => trivial) (by omega) rfl rfl (Ap rfl) (by omega) (by omega) (by have := kB.size; omega) (fun v8 w8 a8 => ?_)
       refine AO ⟨_, fun _ h => h, a8.keep.cell sB (fun hy => by have := (hX0 _ hy).1; omega), ?_⟩
       have zk := kB.size
       have hv8 : ∀ g, v8.ownBlock = some g → w1.heap.size ≤ g ∧ g ≠ c5 ∧ ((Value.slice vp (Cq op ++ (B3 op args).take k).length vc).ownBlock = some g ∨ wB.heap.size ≤ g) := fun g hg => by
        rcases a8.blk with e | e
        ·rw [e] at hg; exact ⟨(hv0 g hg).1, (hv0 g hg).2.2, .inl hg⟩
        ·rw [e] at hg; obtain rfl := Option.some.inj hg; exact ⟨by omega, by omega, .inr (Nat.le_refl _)⟩
       exact leaf (v8, [x0, x1, x2, x3, x4]) _ _ ⟨rfl, rfl, rfl, rfl, rfl, rfl, rfl, rfl, rfl, rfl, rfl, trivial⟩ ⟨(kd0.trans kB (fun _ h _ => h)).trans a8.keep (fun y hy hlt => by have := (hX0 y hy).1; omega), bB.keep a8.keep (fun hy => by have := (hX0 _ hy).1; omega), cB.keep a8.keep (fun hy => (hX0 _ hy).2.2 rfl), a8.own, rfl, hone, (fun g hg => (hv8 g hg).2.1),
        (gB.lt.keep a8.keep (fun y hy hm => by have := (hX0 y hm).2.1; have := hy.1; omega)).mono fun y hy => ⟨⟨by have := hy.1; omega, by have := hy.1; omega⟩, fun e => by have h1 := (hv8 y e).2.2; have h2 := hy.1; have h3 := hy.2; rcases h1 with h1 | h1; have := (hv0 y h1).2.1; omega; omega⟩,
        ((bd'.fs.lt.keep kB (fun y hy hm => by have := hy.1.1.1; simp at hm; omega)).keep a8.keep (fun y hy hm => hy.1.2 (Option.mem_toList.1 hm))).mono fun y hy => ⟨hy.1.1, fun e => by have h1 := (hv8 y e).2.2; have h2 := hy.2; rcases h1 with h1 | h1; exact hy.1.2 h1; omega⟩,
        (zd0.keep kB (by simp; omega)).keep a8.keep (fun hy => by have := (hX0 _ hy).1; omega), by have := a8.keep.size; omega⟩
     ·refine Ab (out := zero5) rfl (by omega) (by rw [CV]; rfl) (fun wA n9 => ?_)
      have kA : Keep [bb] wd wA := kwd.ext n9.keep
      have cA := cwd.keep n9.keep (by simp)
      have bA := bwd.keep n9.keep (by simp)
      have sA := n9.keep.cell swd (by simp)
      have oz := n9.own (n := 1) (size := 5) rfl (by unfold maxLen; omega) (Nat.le_refl _)
      refine AO ⟨_, fun _ h => h, sA, ?_⟩
      have xA := hxk wA kA
      refine D_A rfl ?_ (D_E rfl ?_)
      ·refine AF rfl (cA.cell (o := 4) rfl) ?_
       refine AO ⟨_, fun _ h => h, sA, ?_⟩
       ((apply D_R rfl rfl; (intro W hW; refine AZ rfl ?_; exact AO ⟨rfl, rfl, rfl⟩)))
       refine D_E rfl ?_
       refine AQ (ih wA b' (o' + k * 5) x turn lk (d - 1) (by omega) (by omega) (xA) (p7 x hmx) htx bA hlk (by omega) (by omega) (by omega)) rfl ?_
       rintro u8 wB ⟨kc, bB, f8⟩
       obtain ⟨cs, rfl, hcs, hone⟩ := f8.cells
       obtain ⟨x0, x1, x2, x3, x4, rfl⟩ := A7 hcs
       have kB : Keep [bb] wd wB := kA.trans kc (fun _ h _ => h)
       have cB := cA.keep kc (by simp; omega)
       have sB := kc.cell sA (by simpa using hbn)
       have gB : FAt (fun b => wd.heap.size ≤ b) wB (.agg [x0, x1, x2, x3, x4].toArray) (if turn then nIs x else kerP x) := f8.mono fun y hy => Nat.le_trans kA.size hy
       refine AO ⟨_, fun _ h => h, sB, ?_⟩
       have ozB := Ag oz kc (fun g hg hm => by have := (Aw oz hg).1; simp at hm; omega)
       refine D_E rfl ?_
       refine BD (ok := As) (v := .slice vp (Cq op ++ (B3 op args).take k).length vc) rfl rfl (Ag bd'.own kB (fun g hg hm => by have := (Aw bd'.own hg).1; simp at hm; omega)) (Az (ozB) fun _ _ => trivial) (by omega) rfl rfl (Ap rfl) (by omega) (by omega) (by have := kB.size; omega) (fun v8 w8 a8 => ?_)
       refine AO ⟨_, fun _ h => h, a8.keep.cell sB (fun hy => by have := (hX0 _ hy).1; omega), ?_⟩
       have zk := kB.size
       have hv8 : ∀ g, v8.ownBlock = some g → w1.heap.size ≤ g ∧ g ≠ c5 ∧ ((Value.slice vp (Cq op ++ (B3 op args).take k).length vc).ownBlock = some g ∨ wB.heap.size ≤ g) := fun g hg => by
        rcases a8.blk with e | e
        ·rw [e] at hg; exact ⟨(hv0 g hg).1, (hv0 g hg).2.2, .inl hg⟩
        ·rw [e] at hg; obtain rfl := Option.some.inj hg; exact ⟨by omega, by omega, .inr (Nat.le_refl _)⟩
       exact leaf (v8, [x0, x1, x2, x3, x4]) _ _ ⟨rfl, rfl, rfl, rfl, rfl, rfl, rfl, rfl, rfl, rfl, rfl, trivial⟩ ⟨(kd0.trans kB (fun _ h _ => h)).trans a8.keep (fun y hy hlt => by have := (hX0 y hy).1; omega), bB.keep a8.keep (fun hy => by have := (hX0 _ hy).1; omega), cB.keep a8.keep (fun hy => (hX0 _ hy).2.2 rfl), a8.own, rfl, hone, (fun g hg => (hv8 g hg).2.1),
        (gB.lt.keep a8.keep (fun y hy hm => by have := (hX0 y hm).2.1; have := hy.1; omega)).mono fun y hy => ⟨⟨by have := hy.1; omega, by have := hy.1; omega⟩, fun e => by have h1 := (hv8 y e).2.2; have h2 := hy.1; have h3 := hy.2; rcases h1 with h1 | h1; have := (hv0 y h1).2.1; omega; omega⟩,
        ((bd'.fs.lt.keep kB (fun y hy hm => by have := hy.1.1.1; simp at hm; omega)).keep a8.keep (fun y hy hm => hy.1.2 (Option.mem_toList.1 hm))).mono fun y hy => ⟨hy.1.1, fun e => by have h1 := (hv8 y e).2.2; have h2 := hy.2; rcases h1 with h1 | h1; exact hy.1.2 h1; omega⟩,
        (zd0.keep kB (by simp; omega)).keep a8.keep (fun hy => by have := (hX0 _ hy).1; omega), by have := a8.keep.size; omega⟩
      ·refine AQ (ih wA b' (o' + k * 5) x turn lk (d - 1) (by omega) (by omega) (xA) (p7 x hmx) htx bA hlk (by omega) (by omega) (by omega)) rfl ?_
       rintro u8 wB ⟨kc, bB, f8⟩
       obtain ⟨cs, rfl, hcs, hone⟩ := f8.cells
       obtain ⟨x0, x1, x2, x3, x4, rfl⟩ := A7 hcs
       have kB : Keep [bb] wd wB := kA.trans kc (fun _ h _ => h)
       have cB := cA.keep kc (by simp; omega)
       have sB := kc.cell sA (by simpa using hbn)
       have gB : FAt (fun b => wd.heap.size ≤ b) wB (.agg [x0, x1, x2, x3, x4].toArray) (if turn then nIs x else kerP x) := f8.mono fun y hy => Nat.le_trans kA.size hy
       refine AO ⟨_, fun _ h => h, sB, ?_⟩
       have ozB := Ag oz kc (fun g hg hm => by have := (Aw oz hg).1; simp at hm; omega)
       refine D_E rfl ?_
       refine AF rfl (cB.cell (o := 4) rfl) ?_
       refine AO ⟨_, fun _ h => h, sB, ?_⟩
       ((apply D_R rfl rfl; (intro W hW; refine AZ rfl ?_; exact AO ⟨rfl, rfl, rfl⟩)))
       refine D_E rfl ?_
       refine BD (ok := As) (v := .slice vp (Cq op ++ (B3 op args).take k).length vc) rfl rfl (Ag bd'.own kB (fun g hg hm => by have := (Aw bd'.own hg).1; simp at hm; omega)) (Az (ozB) fun _ _ => trivial) (by omega) rfl rfl (Ap rfl) (by omega) (by omega) (by have := kB.size; omega) (fun v8 w8 a8 => ?_)
       refine AO ⟨_, fun _ h => h, a8.keep.cell sB (fun hy => by have := (hX0 _ hy).1; omega), ?_⟩
       have zk := kB.size
       have hv8 : ∀ g, v8.ownBlock = some g → w1.heap.size ≤ g ∧ g ≠ c5 ∧ ((Value.slice vp (Cq op ++ (B3 op args).take k).length vc).ownBlock = some g ∨ wB.heap.size ≤ g) := fun g hg => by
        rcases a8.blk with e | e
        ·rw [e] at hg; exact ⟨(hv0 g hg).1, (hv0 g hg).2.2, .inl hg⟩
        ·rw [e] at hg; obtain rfl := Option.some.inj hg; exact ⟨by omega, by omega, .inr (Nat.le_refl _)⟩
       exact leaf (v8, [x0, x1, x2, x3, x4]) _ _ ⟨rfl, rfl, rfl, rfl, rfl, rfl, rfl, rfl, rfl, rfl, rfl, trivial⟩ ⟨(kd0.trans kB (fun _ h _ => h)).trans a8.keep (fun y hy hlt => by have := (hX0 y hy).1; omega), bB.keep a8.keep (fun hy => by have := (hX0 _ hy).1; omega), cB.keep a8.keep (fun hy => (hX0 _ hy).2.2 rfl), a8.own, rfl, hone, (fun g hg => (hv8 g hg).2.1),
        (gB.lt.keep a8.keep (fun y hy hm => by have := (hX0 y hm).2.1; have := hy.1; omega)).mono fun y hy => ⟨⟨by have := hy.1; omega, by have := hy.1; omega⟩, fun e => by have h1 := (hv8 y e).2.2; have h2 := hy.1; have h3 := hy.2; rcases h1 with h1 | h1; have := (hv0 y h1).2.1; omega; omega⟩,
        ((bd'.fs.lt.keep kB (fun y hy hm => by have := hy.1.1.1; simp at hm; omega)).keep a8.keep (fun y hy hm => hy.1.2 (Option.mem_toList.1 hm))).mono fun y hy => ⟨hy.1.1, fun e => by have h1 := (hv8 y e).2.2; have h2 := hy.2; rcases h1 with h1 | h1; exact hy.1.2 h1; omega⟩,
        (zd0.keep kB (by simp; omega)).keep a8.keep (fun hy => by have := (hX0 _ hy).1; omega), by have := a8.keep.size; omega⟩
    ·refine AA (Aj rfl rfl (by omega) ?_)
     repeat first | refine nx rfl ?_ | refine nf rfl ?_
     obtain rfl : k = args.length := by omega
     rw [List.take_of_length_le (by omega)] at bW
     rw [List.take_of_length_le (Nat.le_refl _)] at hbW
     have bf := bW.blk
     refine AA ?_
     refine Ac rfl bf rfl ?_
     refine AU (cs := [.int .i64 (fullM op), An nm, .int .i64 v, .int .i64 0, v0]) rfl rfl rfl ?_ zW (by simp [zero5]) (fun w9 p9 => ?_)
     ·intro u hu
      simp at hu
      rcases hu with rfl | rfl | rfl | rfl | rfl <;> first | rfl | exact own_oneC bW.own
     repeat refine nx rfl ?_
     refine A2 rfl rfl rfl p9.blk.cells ⟨kW.trans p9.keep (fun y hy hlt => by simp at hy; omega), ?_, (bW.fin.keep p9.keep (fun y hy hm => by have := hy.1; simp at hm; omega)).mono fun y hy => by have := hy.1; omega⟩
     have hres := hbW.keep p9.keep (by simp; omega)
     have : l - pn - (cstL args : Int) - (if op = 7 ∧ 0 < args.length then 1 else 0) = l - (((if op = 11 ∨ op = 12 ∨ op = 7 then 2 else 1) + cstL args : Nat) : Int) := by
      rw [hpn]
      by_cases h7 : op = 7
      ·have := (p6 (.inr h7)).1
       rw [if_neg (by omega), if_pos ⟨h7, this⟩, if_pos (by omega)]; omega
      ·by_cases h12 : op = 11 ∨ op = 12
       ·rw [if_pos h12, if_neg (show ¬(op = 7 ∧ 0 < args.length) from fun h => h7 h.1), if_pos (by omega)]; omega
       ·rw [if_neg h12, if_neg (show ¬(op = 7 ∧ 0 < args.length) from fun h => h7 h.1), if_neg (by omega)]; omega
     rw [this] at hres
     exact hres
   refine D_A rfl ?_ (D_E rfl ?_)
   ·refine AQ (full_ok wd op) rfl ?_
    rintro _ _ ⟨rfl, rfl⟩
    refine AO ⟨_, fun _ h => h, Ext.refl _, ?_⟩
    ((apply D_R rfl rfl; (intro W hW; refine BE (by rfl) (by rfl) ?_; exact AO ⟨rfl, rfl, rfl⟩)))
    refine D_E rfl ?_
    refine Ar (L := zero5) (fun w4 n4 => ?_)
    refine AO ⟨_, fun _ h => h, n4.keep, ?_⟩
    exact leaf () _ _ ⟨rfl, rfl, rfl, rfl, rfl, rfl, rfl, trivial⟩ n4
   ·refine Ar (L := zero5) (fun w4 n4 => ?_)
    refine AO ⟨_, fun _ h => h, n4.keep, ?_⟩
    refine D_E rfl ?_
    refine AQ (full_ok w4 op) rfl ?_
    rintro _ _ ⟨rfl, rfl⟩
    refine AO ⟨_, fun _ h => h, n4.keep, ?_⟩
    ((apply D_R rfl rfl; (intro W hW; refine BE (by rfl) (by rfl) ?_; exact AO ⟨rfl, rfl, rfl⟩)))
    exact leaf () _ _ ⟨rfl, rfl, rfl, rfl, rfl, rfl, rfl, trivial⟩ n4
end Go.Proofs.YtkhhjdjmhbdjfaaGreatDoor
namespace Go.Proofs.YtkhhjdjmhbdjfaaGreatDoor
open Go.RowKit
set_option linter.unusedVariables false
variable {mk : Prop} [MK mk]
theorem kernel_ok (w : World) (v : Value) (f : Fml) (hf : FAt As w v f) (hG : GF w) (hK : KY w) (hN : 3 ≤ w.heap.size) (hv : validG f = true) (hl : layG f = true) (hp : posB f = true) (hc : cst f ≤ 60) (hd : dpF f + 1 ≤ 20) (hz : szF f ≤ 1000) :
  Fn Tryz.prog 49 [v] w fun u w' => ∃ c : List Value, u = .tuple #[.agg c.toArray, .int .i64 0] ∧ Ext w w' ∧ FAt (fun b => w.heap.size ≤ b) w' (.agg c.toArray) (kerP f) := by
 obtain ⟨c, rfl, hc5, hone⟩ := hf.cells
 obtain ⟨x0, x1, x2, x3, x4, rfl⟩ := A7 hc5
 have hfl := hf.lt
 refine AR Tryz.func49 rfl Tryz.ntmps49 (Nat.le_of_ble_eq_true rfl) (by kernel_rfl) ?_
 repeat refine nx rfl ?_
 (refine AA ?_; refine A5 (L := [x0, x1, x2, x3, x4]) rfl (fun w1 n1 => ?_))
 refine Ar (L := zero5) (fun w2 n2 => ?_)
 refine AC (AG rfl ?_)
 repeat refine nx rfl ?_
 have z1 := n1.size
 have z2 := n2.size
 have kk := n1.keep.trans n2.keep
 have b1 : Blk w2 w.heap.size 25 [x0, x1, x2, x3, x4] := n1.blk.keep n2.keep (by simp)
 have b2 := n2.blk
 refine AA ?_
 refine Ac rfl b1 rfl ?_
 refine AQ (fvalid_ok w2 _ f (hf.ext kk) (hG.ext kk) (hK.keep kk (by simp)) (Nat.le_trans hN kk.size)) rfl ?_
 rintro _ w3 ⟨rfl, k3⟩
 rw [hv]
 have e3 := kk.trans k3
 have b13 := b1.keep k3 (by simp)
 refine Ak rfl (AB rfl ?_)
 refine AE rfl (Ac rfl b13 rfl ?_)
 refine AE rfl (AQ (flay_ok w3 _ f (hf.ext e3) (hG.ext e3) (Nat.le_trans hN e3.size) (by omega)) rfl ?_)
 rintro _ w4 ⟨rfl, k4⟩
 rw [hl]
 have e4 := e3.trans k4
 refine AE rfl (Ak rfl (AJ rfl (AB rfl ?_)))
 repeat first | refine nx rfl ?_ | refine nf rfl ?_
 refine AA (BE (by rfl) (by rfl) ?_)
 refine A5 (L := [.int .i64 60, .bool false]) rfl (fun w5 n5 => ?_)
 refine AC (AP rfl ?_)
 repeat refine nx rfl ?_
 have e5 := e4.trans n5.keep
 have z5 := e4.size
 have k25 : Ext w2 w5 := (k3.trans k4).trans n5.keep
 have b15 := b1.keep k25 (by simp)
 have hp5 : PF (fun b => b ≠ w4.heap.size) w5 w.heap.size 0 f := ⟨by have := (k3.trans k4).size; omega, _, rfl, b15.cells, (hfl.ext e5).mono fun b hb => by have := hb.2; omega⟩
 refine AA (AP rfl ?_)
 refine AQ (form_ok w4.heap.size 19 w5 w.heap.size 0 f false 60 20 (by omega) hz hp5 hp (fun h => by cases h) n5.blk (by simp; omega) (by omega) (by omega) (by omega)) rfl ?_
 rintro u w6 ⟨k6, hb6, f6⟩
 simp only [Bool.false_eq_true, if_false] at f6
 obtain ⟨cs, rfl, hcs, hone⟩ := f6.cells
 obtain ⟨y0, y1, y2, y3, y4, rfl⟩ := A7 hcs
 refine Ar (L := zero5) (fun w7 n7 => ?_)
 refine AU (cs := [y0, y1, y2, y3, y4]) rfl rfl rfl hone n7.blk (by simp [zero5]) (fun w8 p8 => ?_)
 repeat refine nx rfl ?_
 have k68 : Ext w6 w8 := n7.keep.keep p8.keep (by simp)
 have hb8 := hb6.keep k68 (by simp)
 have b58 : Blk w8 w6.heap.size 25 [y0, y1, y2, y3, y4] := p8.blk
 have z24 : w2.heap.size ≤ w4.heap.size := (k3.trans k4).size
 have b28 : Blk w8 w1.heap.size 25 zero5 := ((b2.keep k25 (by simp)).keep k6 (by simp; omega)).keep k68 (by simp)
 have z6 := k6.size
 have z55 := n5.size
 (refine AA (AP rfl (AH rfl (AD rfl (AF rfl (Blk.cell (by assumption) (by rfl)) ?_)))))
 repeat first | refine nx rfl ?_ | refine nf rfl ?_
 refine AA ?_
 refine Ac rfl b58 rfl ?_
 refine AU (cs := [y0, y1, y2, y3, y4]) rfl rfl rfl hone b28 (by simp [zero5]) (fun w9 p9 => ?_)
 refine AC (AG rfl ?_)
 repeat refine nx rfl ?_
 refine fin_retA1 rfl rfl rfl p9.blk.cells ⟨[y0, y1, y2, y3, y4], rfl, ?_, ((f6.ext k68).keep p9.keep (fun y hy hm => by simp at hm; omega)).mono fun y hy => by omega⟩
 exact ((e5.keep k6 (by simp; omega)).trans k68).keep p9.keep (by simp; omega)
end Go.Proofs.YtkhhjdjmhbdjfaaGreatDoor
namespace Go.Proofs.YtkhhjdjmhbdjfaaGreatDoor
open Go.RowKit
set_option linter.unusedVariables false
structure TnR (yv : Value) (X : List Nat) (B : Nat) (kn : List UInt8 → Int → Bool) (J : World → Prop) : Prop where
 fn : ∃ y, yv = .func (.yield y) #[] #[]
 ext : ∀ {W W' : World}, J W → Ext W W' → J W'
 step : ∀ {W : World} {b o : Nat} {f : Fml}, J W → PF (fun b => b ∉ X ∧ b < B) W b o f → okT kn f = true → YldP Tryz.prog yv [.pointer (some ⟨b, o, none⟩)] W (fun v W' => v = .bool true ∧ Keep X W W' ∧ J W') fun _ _ => False
theorem tvisit_ok {yv : Value} {X : List Nat} {B : Nat} {kn : List UInt8 → Int → Bool} {J : World → Prop} (H : TnR yv X B kn J) (c1 c2 : Nat) (h1 : c1 ∉ X) (h2 : c2 ∉ X) : ∀ (n : Nat) (w : World) (b o : Nat) (f : Fml), dpF f ≤ n → PF (fun b => b ∉ X ∧ b < B) w b o f → okT kn f = true →
  Blk w c1 49 [yv] → Blk w c2 49 [.func (.func 193) #[] #[pt c1, pt c2]] → J w →
  Fn Tryz.prog 193 [.pointer (some ⟨b, o, none⟩), pt c1, pt c2] w fun v w' => v = .bool true ∧ Keep X w w' ∧ J w' := by
 intro n
 induction n with
 | zero => intro w b o f hn; rw [Bd] at hn; omega
 | succ n ih =>
 intro w b o f hn hf hk b1 b2 hJ
 rw [Bd] at hn
 obtain ⟨y, rfl⟩ := H.fn
 have hka : ∀ a ∈ f.args, okT kn a = true := by obtain ⟨op, nm, v, bd, args⟩ := f; exact (okT_parts hk).2
 refine AR Tryz.func193 rfl Tryz.ntmps193 (Nat.le_of_ble_eq_true rfl) (by kernel_rfl) ?_
 repeat refine nx rfl ?_
 refine AA (AC (AB rfl ?_))
 repeat refine nx rfl ?_
 (refine AA (AF rfl (Blk.cell (by assumption) (by rfl)) ?_) <;> refine AP rfl ?_)
 refine W_yield rfl rfl (H.step hJ hf hk) ?_
 rintro _ w1 ⟨rfl, k1, hJ1⟩
 refine Ak rfl ?_
 repeat first | refine nx rfl ?_ | refine nf rfl ?_
 have hf1 := hf.keep k1 (fun _ h => h.1)
 have b11 := b1.keep k1 h1
 have b21 := b2.keep k1 h2
 obtain ⟨a0, cc0, hal, hargs0, _⟩ := hf1.arg
 (refine AA (AP rfl (AH rfl (AD rfl (AF rfl (by assumption) ?_)))) <;> refine AZ rfl (AG rfl ?_))
 repeat refine nx rfl ?_
 refine A3 (α := Nat) (fun k => [(0, .pointer (some ⟨b, o, none⟩)), (1, pt c1), (2, pt c2), (14, .int .i64 (f.args.length : Int)), (15, .int .i64 (k : Int))]) (fun k W => k ≤ f.args.length ∧ Keep X w W ∧ J W ∧ PF (fun b => b ∉ X ∧ b < B) W b o f ∧ Blk W c1 49 [.func (.yield y) #[] #[]] ∧ Blk W c2 49 [.func (.func 193) #[] #[pt c1, pt c2]]) (fun k => f.args.length - k) 0 ⟨rfl, rfl, rfl, rfl, rfl, trivial⟩ ⟨by omega, k1, hJ1, hf1, b11, b21⟩ ?_
 rintro k W fr ⟨hk', kW, hJW, hfW, b1W, b2W⟩
 repeat refine nx rfl ?_
 by_cases hlt : k < f.args.length
 ·refine AA (At rfl rfl (by omega) ?_)
  repeat refine nx rfl ?_
  refine AA (AG rfl (AC (AG rfl ?_)))
  repeat refine nx rfl ?_
  obtain ⟨x, hx⟩ : ∃ x, f.args[k]? = some x := ⟨_, List.getElem?_eq_getElem hlt⟩
  obtain ⟨aa, cc, _, hargs, hel⟩ := hfW.arg
  obtain ⟨b', o', rfl, hfx⟩ := hel k x hx
  have hmx := List.mem_of_getElem? hx
  have hdx := Bp hmx
  refine Ad (.read 0 (.read 1 (.read 2 (.read 3 (.read 4 (.read 5 (.read 6 (.alt 7 (.read 8 .done) .stop)))))))) Ax (by kernel_rfl) (fun wd kd ed => ⟨Keep X wd, ?_, ?_⟩)
  ·exact Keep.refl _ _
  have ca : ∀ V, Keep X wd V → V.cell? ⟨c2, 0, none⟩ = some (.func (.func 193) #[] #[pt c1, pt c2]) := fun V e => ((b2W.keep kd (by simp)).keep e h2).cell rfl
  have cb : ∀ V, Keep X wd V → V.cell? ⟨b, o + 4, none⟩ = some (.slice (some ⟨b', o', none⟩) f.args.length cc) := fun V e => e.cell (kd.cell hargs (by simp)) hfW.1.1
  refine D_R rfl rfl (fun W hW => AF rfl (ca W hW) Z3) (D_R rfl rfl (fun W hW => AP rfl Z3) (D_R rfl rfl (fun W hW => AH rfl Z3) (D_R rfl rfl (fun W hW => AD rfl Z3) (D_R rfl rfl (fun W hW => AF rfl (cb W hW) Z3) (D_R rfl rfl (fun W hW => AG rfl Z3) (D_R rfl rfl (fun W hW => Au rfl rfl rfl (by omega) Z3) ?_))))))
  refine D_E rfl ?_
  refine BO (v1 := []) (v2 := [pt c1, pt c2]) (vs := [.pointer (some ⟨b', o' + k * 5, none⟩)]) rfl (ih wd b' (o' + k * 5) x (by omega) (hfx.keep kd (fun _ _ => by simp)) (hka x hmx) (b1W.keep kd (by simp)) (b2W.keep kd (by simp)) (H.ext hJW kd)) rfl ?_
  rintro _ w4 ⟨rfl, k4, hJ4⟩
  refine AO ⟨Keep X wd, fun _ e => e, k4, ?_⟩
  refine D_R rfl rfl (fun W hW => Ak rfl Z3) (Ah ?_)
  repeat first | refine nx rfl ?_ | refine nf rfl ?_
  (refine AA (Av rfl rfl (by first | exact AV (by omega) (by omega) | exact AY (by omega) (by omega) | exact AW (by omega) (by omega)) ?_) <;> refine AG rfl ?_)
  repeat refine nx rfl ?_
  have kW4 := (kW.trans kd (fun x h => by cases h)).trans k4 (fun x h _ => h)
  refine ⟨k + 1, ⟨rfl, ⟨rfl, rfl, rfl, rfl, ?_, trivial⟩, ⟨by omega, kW4, hJ4, (hfW.keep kd (fun _ _ => by simp)).keep k4 (fun _ h => h.1), (b1W.keep kd (by simp)).keep k4 h1, (b2W.keep kd (by simp)).keep k4 h2⟩⟩, by omega⟩
  show Value.int .i64 ((k : Int) + 1) = _
  rw [Int.natCast_add]; rfl
 ·refine AA (Aj rfl rfl (by omega) ?_)
  repeat first | refine nx rfl ?_ | refine nf rfl ?_
  refine AA (AC (AB rfl ?_))
  repeat refine nx rfl ?_
  exact AI rfl ⟨rfl, kW, hJW⟩
theorem tnodesIt_ok {yv : Value} {X : List Nat} {kn : List UInt8 → Int → Bool} {J : World → Prop} (w : World) (cf b o : Nat) (f : Fml) (H : TnR yv X w.heap.size kn J) (hcf : Blk w cf 50 [.pointer (some ⟨b, o, none⟩)]) (hf : PF (fun b => b ∉ X ∧ b < w.heap.size) w b o f) (hk : okT kn f = true) (hJ : J w) (hX : ∀ x ∈ X, x < w.heap.size) :
  Fn Tryz.prog 192 [yv, pt cf] w fun _ w' => Keep X w w' ∧ J w' := by
 have hX' : ∀ {c : Nat}, w.heap.size ≤ c → c ∉ X := fun h hx => by have := hX _ hx; omega
 obtain ⟨y, rfl⟩ := H.fn
 refine AR Tryz.func192 rfl Tryz.ntmps192 (Nat.le_of_ble_eq_true rfl) (by kernel_rfl) ?_
 repeat refine nx rfl ?_
 (refine AA ?_; refine A5 (L := [.func (.yield y) #[] #[]]) rfl (fun w1 n1 => ?_))
 repeat refine nx rfl ?_
 (refine AA ?_; refine Ar (fun w2 n2 => ?_))
 repeat refine nx rfl ?_
 refine AA (Ae rfl rfl ?_)
 refine Aa (v := .func (.func 193) #[] #[pt w.heap.size, pt w1.heap.size]) rfl rfl rfl n2.blk (by simp) (fun w3 p3 => ?_)
 repeat refine nx rfl ?_
 have z1 := n1.size
 have z2 := n2.size
 have z3 := p3.size
 have k23 : Ext w1 w3 := n2.keep.keep p3.keep (by simp)
 have k3 : Ext w w3 := n1.keep.trans k23
 have b2 : Blk w3 w.heap.size 49 [.func (.yield y) #[] #[]] := n1.blk.keep k23 (by simp)
 have b1 : Blk w3 w1.heap.size 49 [.func (.func 193) #[] #[pt w.heap.size, pt w1.heap.size]] := p3.blk
 have hcf3 := (hcf.keep k3 (by simp)).cell (o := 0) rfl
 (refine AA (AF rfl (Blk.cell (by assumption) (by rfl)) ?_) <;> refine AF rfl (by assumption) ?_)
 refine BO (v1 := []) (v2 := [pt w.heap.size, pt w1.heap.size]) (vs := [.pointer (some ⟨b, o, none⟩)]) rfl (tvisit_ok H w.heap.size w1.heap.size (hX' (Nat.le_refl _)) (hX' (by omega)) (dpF f) w3 b o f (Nat.le_refl _) (hf.keep k3 (fun _ _ => by simp)) hk b2 b1 (H.ext hJ k3)) rfl ?_
 rintro _ w4 ⟨rfl, k4, hJ4⟩
 repeat refine nx rfl ?_
 exact Cu rfl ⟨(k3.any : Keep X w w3).trans k4 (fun y hy _ => hy), hJ4⟩
theorem tnodes_ok (w : World) (b o : Nat) : Fn Tryz.prog 145 [.pointer (some ⟨b, o, none⟩)] w fun v w' => v = .func (.func 192) #[] #[pt w.heap.size] ∧ New w w' 50 [.pointer (some ⟨b, o, none⟩)] := by
 refine AR Tryz.func145 rfl Tryz.ntmps145 (Nat.le_of_ble_eq_true rfl) (by kernel_rfl) ?_
 repeat refine nx rfl ?_
 (refine AA ?_; refine A5 (L := [.pointer (some ⟨b, o, none⟩)]) rfl (fun w1 n1 => ?_))
 refine AC (Be ?_)
 repeat refine nx rfl ?_
 refine AA (Ae rfl rfl (AC (Bq rfl ?_)))
 repeat refine nx rfl ?_
 exact AI rfl ⟨rfl, n1⟩
theorem nodeErr_ok (w : World) (sa : Option Addr) (sc : Nat) (S : List Sgn) (b o : Nat) (f : Fml) (hS : SlAt sgnR As w (.slice sa S.length sc) S) (hf : PF As w b o f) (hk : okT (knS S) f = true) : Fn Tryz.prog 146 [.slice sa S.length sc, .pointer (some ⟨b, o, none⟩)] w fun u w' => u = .int .i64 0 ∧ Ext w w' := by
 obtain ⟨aa, cc, hla, q0, q1, q2, q3, q4, qa⟩ := hf.all
 obtain ⟨op, nm, v, bd, args⟩ := f
 obtain ⟨hop, hka⟩ := okT_parts hk
 simp only [Fml.op, Fml.name, Fml.val, Fml.args] at *
 by_cases h3 : op = 3
 ·subst h3
  have hkn : knS S nm v = true := by
   rcases hop with h | h | h | h | h | h <;> first | exact h.2 | omega
  obtain ⟨i, s, hj, hs, hvs⟩ := kn_find hkn
  have hil := (List.getElem?_eq_some_iff.1 hs).1
  have hfm : Cs S nm = (i : Int) := by unfold Cs; rw [hj]
  obtain ⟨_, sb, so, rfl, _, hsc⟩ := hS.sig hs
  have hc2 := hsc 2 _ rfl
  refine AR Tryz.func146 rfl Tryz.ntmps146 (Nat.le_of_ble_eq_true rfl) (by kernel_rfl) ?_
  repeat refine nx rfl ?_
  refine AA (AC (AG rfl ?_))
  repeat refine nx rfl ?_
  (refine AA (AP rfl (AH rfl (AD rfl (AF rfl (by assumption) ?_)))))
  repeat refine nx rfl ?_
  refine AA (Ai rfl rfl (by omega) (AC (AB rfl ?_)))
  repeat refine nx rfl ?_
  refine AA (AM rfl (AP rfl (AH rfl (AD rfl (AF rfl (by assumption) ?_)))))
  refine AQ (sigFind_ok w _ S nm hS) rfl ?_
  rintro _ w ⟨rfl, rfl⟩
  rw [hfm]
  refine AC (AG rfl ?_)
  repeat refine nx rfl ?_
  refine AA (AG rfl (Aj rfl rfl (by omega) ?_))
  repeat first | refine nx rfl ?_ | refine nf rfl ?_
  refine Ad (.read 0 (.read 1 (.read 2 (.read 3 (.read 4 (.read 5 (.read 6 (.read 7 (.read 8 (.read 9 .done)))))))))) Ax (by kernel_rfl) (fun wd kd ed => ⟨Ext wd, ?_, ?_⟩)
  ·exact Ext.refl _
  have s1 : ∀ V, Ext wd V → V.cell? ⟨b, o + 2, none⟩ = some (.int .i64 v) := fun V e => (kd.trans e).cell q2 (by simp)
  have s2 : ∀ V, Ext wd V → V.cell? ⟨sb, so + i * 3 + 2, none⟩ = some (.int .i64 s.size) := fun V e => (kd.trans e).cell hc2 (by simp)
  refine D_R rfl rfl (fun W hW => AP rfl Z3) (D_R rfl rfl (fun W hW => AH rfl Z3) (D_R rfl rfl (fun W hW => AD rfl Z3) (D_R rfl rfl (fun W hW => AF rfl (s1 W hW) Z3) (D_R rfl rfl (fun W hW => AM rfl Z3) (D_R rfl rfl (fun W hW => AG rfl Z3) (D_R rfl rfl (fun W hW => Au rfl rfl rfl (by omega) Z3) (D_R rfl rfl (fun W hW => AD rfl Z3) (D_R rfl rfl (fun W hW => AF rfl (s2 W hW) Z3) (D_geqF rfl rfl rfl rfl (by omega) (Ah ?_))))))))))
  repeat first | refine nx rfl ?_ | refine nf rfl ?_
  refine AA (AC (AG rfl ?_))
  repeat refine nx rfl ?_
  exact AI rfl ⟨rfl, kd⟩
 ·have h15 : op < 15 := by omega
  clear hop
  refine AR Tryz.func146 rfl Tryz.ntmps146 (Nat.le_of_ble_eq_true rfl) (by kernel_rfl) ?_
  repeat refine nx rfl ?_
  refine AA (AC (AG rfl ?_))
  repeat refine nx rfl ?_
  (refine AA (AP rfl (AH rfl (AD rfl (AF rfl (by assumption) ?_)))))
  repeat refine nx rfl ?_
  refine AA (AT rfl rfl (by omega) (AC (AB rfl ?_)))
  repeat first | refine nx rfl ?_ | refine nf rfl ?_
  refine AA (AT rfl rfl (by omega) (AC (AB rfl ?_)))
  repeat first | refine nx rfl ?_ | refine nf rfl ?_
  refine AA (AT rfl rfl (by omega) (AC (AB rfl ?_)))
  repeat first | refine nx rfl ?_ | refine nf rfl ?_
  refine AA (AT rfl rfl (by omega) (AC (AB rfl ?_)))
  repeat first | refine nx rfl ?_ | refine nf rfl ?_
  refine AA (AT rfl rfl (by omega) (AC (AB rfl ?_)))
  repeat first | refine nx rfl ?_ | refine nf rfl ?_
  refine AA (AT rfl rfl (by omega) (AC (AB rfl ?_)))
  repeat first | refine nx rfl ?_ | refine nf rfl ?_
  refine AA (AC (AG rfl ?_))
  repeat refine nx rfl ?_
  exact AI rfl ⟨rfl, Ext.refl _⟩
end Go.Proofs.YtkhhjdjmhbdjfaaGreatDoor
