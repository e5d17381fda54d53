/- The examples of the law, walked: w09Signals, w09Response. The law's own examples hold: w09Remembers. The law walked: TopAged. The close of TopAged: what the row's list gives, the arguments opened, the witness, the law's step. TopAged: for every input the law returns true and each argument reads as it did. Conditions: none. -/
import Derived.Test.YtkhhjdjmhbdjfaaGreatDoorQT15
import Derived.Test.YtkhhjdjmhbdjfaaGreatDoorCards
import Derived.Test.YtkhhjdjmhbdjfaaGreatDoorTie
import Derived.Deep.DeepWitnessRowRef
import Derived.Lib.LaidTab

namespace Go.Proofs.YtkhhjdjmhbdjfaaGreatDoor
open Go.RowKit
set_option linter.unusedVariables false
theorem signals_ok (w : World) : Fn Tryz.prog 15 [] w fun u w' => (∃ b, u = .slice (some ⟨b, 0, none⟩) Sg2.length 2) ∧ SlAt sgnR As w' u Sg2 ∧ Ext w w' := by
 refine AR Tryz.func15 rfl Tryz.ntmps15 (Nat.le_of_ble_eq_true rfl) (by kernel_rfl) ?_
 repeat refine nx rfl ?_
 refine AA (AC (AM rfl ?_))
 repeat refine nx rfl ?_
 (refine AA (BE (by rfl) (by rfl) ?_) <;> refine BE (by rfl) (by rfl) ?_)
 refine Ab (out := sgnC sgR ++ sgnC sgG) rfl (by omega) (by kernel_rfl) (fun w1 n1 => ?_)
 refine AC (AM rfl ?_)
 repeat refine nx rfl ?_
 refine AI rfl ⟨⟨_, rfl⟩, ⟨_, _, [sgnC sgR, sgnC sgG], rfl, ⟨_, _, rfl, by decide, by decide, (fun h => by cases h), .inr ⟨_, 0, rfl, trivial, n1.blk.cells⟩⟩, rfl, ?_⟩, n1.keep⟩
 intro k c x hc hx
 match k with
 | 0 => cases hc; cases hx; rfl
 | 1 => cases hc; cases hx; rfl
 | k + 2 => simp at hc
theorem response_ok (w : World) (hG : GF w) (hK : KY w) (hN : 3 ≤ w.heap.size) : Fn Tryz.prog 19 [] w fun u w' => FV w' u respK ∧ Ext w w' := by
 obtain ⟨r1, r2, r3, r4, r5, r6⟩ := resp_ok
 refine AR Tryz.func19 rfl Tryz.ntmps19 (Nat.le_of_ble_eq_true rfl) (by kernel_rfl) ?_
 repeat refine nx rfl ?_
 (refine AA ?_; refine Ar (L := zero5) (fun w1 n1 => ?_))
 repeat refine nx rfl ?_
 have b1 := n1.blk
 have k1 := n1.keep
 refine AA ?_
 refine AQ (refIs_ok w1 [114] 1) rfl ?_
 rintro u2 w2 ⟨k2, f2⟩
 refine AQ (refIs_ok w2 [103] 1) rfl ?_
 rintro u3 w3 ⟨k3, f3⟩
 obtain ⟨c3, rfl, _⟩ := f3.cells
 refine AQ (rone_ok w3 11 _ _ f3) rfl ?_
 rintro u4 w4 ⟨k4, f4⟩
 obtain ⟨c2, rfl, _⟩ := f2.cells
 obtain ⟨c4, rfl, _⟩ := f4.cells
 refine AQ (rtwo_ok w4 7 _ _ _ _ (f2.ext (k3.trans k4)) f4) rfl ?_
 rintro u5 w5 ⟨k5, f5⟩
 obtain ⟨c5, rfl, _⟩ := f5.cells
 refine AQ (rone_ok w5 12 _ _ f5) rfl ?_
 rintro u6 w6 ⟨k6, f6⟩
 obtain ⟨c6, rfl, _⟩ := f6.cells
 have e6 := ((((k1.trans k2).trans k3).trans k4).trans k5).trans k6
 have k16 := (((k2.trans k3).trans k4).trans k5).trans k6
 refine AQ (kernel_ok w6 _ respF f6 (hG.ext e6) (hK.keep e6 (by simp)) (Nat.le_trans hN e6.size) r1 r2 r3 r4 r5 r6) rfl ?_
 rintro _ w7 ⟨c7, rfl, k7, f7⟩
 obtain ⟨cs, ecs, hcs, hone⟩ := f7.cells
 have ec : c7 = cs := by simpa using ecs
 subst ec
 obtain ⟨y0, y1, y2, y3, y4, rfl⟩ := A7 hcs
 refine Cj rfl (BA rfl rfl (BA rfl rfl ?_))
 refine Cv (cs := [y0, y1, y2, y3, y4]) rfl rfl (by rfl) hone (fun w8 n8 => ?_)
 refine AC (AG rfl ?_)
 repeat refine nx rfl ?_
 have b8 := n8.blk
 have b18 := (b1.keep (k16.trans k7) (by simp)).keep n8.keep (by simp)
 refine AA ?_
 refine Ac rfl b8 rfl ?_
 refine AU (cs := [y0, y1, y2, y3, y4]) rfl rfl rfl hone b18 (by simp [zero5]) (fun w9 p9 => ?_)
 repeat refine nx rfl ?_
 have e8 := (e6.trans k7).trans n8.keep
 have z1 := n1.size
 have z6 := k16.size
 exact A2 rfl rfl rfl p9.blk.cells ⟨((f7.ext n8.keep).keep p9.keep (fun b hb hm => by simp at hm; omega)).mono fun _ _ => trivial, e8.keep p9.keep (by simp)⟩
end Go.Proofs.YtkhhjdjmhbdjfaaGreatDoor
namespace Go.Proofs.YtkhhjdjmhbdjfaaGreatDoor
open Go.RowKit
set_option linter.unusedVariables false
theorem val_at {ok : Nat → Prop} {w : World} {c : List Value} {f : Fml} (h : FAt ok w (.agg c.toArray) f) : c[2]? = some (.int .i64 f.val) := by
 obtain ⟨av, e, _⟩ := h.form
 have := congrArg (fun v => match v with | Value.agg c => c.toList | _ => []) e
 have e : c = [.int .i64 f.op, An f.name, .int .i64 f.val, .int .i64 f.bound, av] := by simpa using this
 rw [e]; rfl
theorem remembers_ok2 (w : World) (hG : GF w) (hK : KY w) (hN : 3 ≤ w.heap.size) : Fn Tryz.prog 4 [] w fun u w' => u = .bool true ∧ Ext w w' := by
 refine AR Tryz.func4 rfl Tryz.ntmps4 (Nat.le_of_ble_eq_true rfl) (by kernel_rfl) ?_
 repeat refine nx rfl ?_
 refine AA (AC (AB rfl ?_))
 repeat refine nx rfl ?_
 refine AA ?_
 refine AQ (signals_ok w) rfl ?_
 rintro u1 w1 ⟨⟨sb, rfl⟩, hS, k1⟩
 refine AC (AM rfl ?_)
 repeat refine nx rfl ?_
 refine AA ?_
 refine AQ (refIs_ok w1 [114] 1) rfl ?_
 rintro u2 w2 ⟨k2, f2⟩
 obtain ⟨c2, rfl, hc2, hone2⟩ := f2.cells
 obtain ⟨x0, x1, x2, x3, x4, rfl⟩ := A7 hc2
 refine Ab (out := [x0, x1, x2, x3, x4]) rfl (by omega) (by rw [CV]; rfl) (fun w3 n3 => ?_)
 obtain ⟨S3, F3⟩ := FsAt.fresh (L := [[x0, x1, x2, x3, x4]]) n3 (FsAt.one f2 rfl) trivial (by simp)
 have f3 : FV w3 _ Cd := FAt.node 15 [] 0 0 S3 F3
 refine BE (by rfl) (by rfl) ?_
 refine Cv (cs := [.int .i64 15, An [], .int .i64 0, .int .i64 0, .slice (some ⟨w2.heap.size, 0, none⟩) 1 1]) rfl rfl (by rfl) (Ap rfl) (fun w4 n4 => ?_)
 repeat refine nx rfl ?_
 have b4 := n4.blk
 have f4 := f3.ext n4.keep
 have e4 := ((k1.trans k2).trans n3.keep).trans n4.keep
 have e14 := (k2.trans n3.keep).trans n4.keep
 obtain ⟨t2, ht2⟩ : ∃ t2, t2 = w3.heap.size := ⟨_, rfl⟩
 rw [← ht2] at b4 ⊢
 have bx : ∀ W, Ext w4 W → Blk W t2 25 [.int .i64 15, An [], .int .i64 0, .int .i64 0, .slice (some ⟨w2.heap.size, 0, none⟩) 1 1] := fun W e => b4.keep e (by simp)
 refine AA ?_
 refine Ac rfl b4 rfl ?_
 refine AQ (pnodesW_ok w4 _ Cd f4 (hG.ext e4) (hK.keep e4 (by simp)) (Nat.le_trans hN e4.size) yest_kern) rfl ?_
 rintro u5 w5 ⟨hN5, k5⟩
 rw [yest_nodes] at hN5
 have hlist : listOk [Cd] := yest_nodes ▸ nodes_list yest_kern (by rw [yest_nodes]; decide)
 have hev : evOk Sg2 [Cd] := yest_nodes ▸ nodes_ev (by kernel_rfl) yest_is
 have hN5' : SlAt fmlR (fun b => Unm w5 b) w5 u5 [Cd] := hN5.mono fun b hb => hb.2
 obtain ⟨na, nc, eu, _⟩ := hN5.len
 replace eu : u5 = .slice na 1 nc := eu
 subst eu
 have e5 := e4.trans k5
 refine AC (AM rfl ?_)
 repeat refine nx rfl ?_
 refine AA (AM rfl (AM rfl (AM rfl ?_)))
 refine AQ (start_ok w5 _ [Cd] _ hN5' (fun b hb => hb) (hG.ext e5) (hK.keep e5 (by simp)) (Nat.le_trans hN e5.size) hlist) rfl ?_
 rintro _ w6 ⟨rfl, k6⟩
 have hN6 : SlAt fmlR (fun b => Unm w6 b) w6 (.slice na 1 nc) [Cd] := ((hN5'.lt (show (0 : Nat) < 5 by omega)).ext k6).mono fun b hb => hb.1.eq (k6.block b hb.2 (by simp))
 have e6 := e5.trans k6
 have e16 := (e14.trans k5).trans k6
 refine AQ (next_ok w6 _ _ Sg2 [Cd] (startI [Cd]) 1 _ (hS.ext e16) sg_valid (by omega) (by rw [sg_num]; omega) hN6 (fun b hb => hb) (hG.ext e6) (hK.keep e6 (by simp)) (Nat.le_trans hN e6.size) hlist (bits_lt _ _) hev) rfl ?_
 rintro _ w7 ⟨rfl, k7⟩
 rw [yest_next]
 have hN7 : SlAt fmlR (fun b => Unm w7 b) w7 (.slice na 1 nc) [Cd] := ((hN6.lt (show (0 : Nat) < 5 by omega)).ext k7).mono fun b hb => hb.1.eq (k7.block b hb.2 (by simp))
 have e7 := e6.trans k7
 have e17 := e16.trans k7
 have k47 := (k5.trans k6).trans k7
 refine AC (AG rfl ?_)
 repeat refine nx rfl ?_
 have b7 := bx w7 k47
 refine AA (AM rfl (AZ rfl (Ai rfl rfl (by omega) (AB rfl (AE rfl (AG rfl (AE rfl (Ai rfl rfl (by omega) (AK rfl (AB rfl (AB rfl (AE rfl (AM rfl (AE rfl (AG rfl ?_)))))))))))))))
 refine AE rfl (Ac rfl b7 rfl ?_)
 refine AE rfl (AQ (put_ok w7 _ _ Cd [Cd] 1 _ hN7 (f4.ext k47) (fun b hb => hb) (hG.ext e7) (hK.keep e7 (by simp)) (Nat.le_trans hN e7.size) hlist (by decide) yest_kern (fun x hx => by rw [← yest_nodes]; exact mem_nodes.2 hx)) rfl ?_)
 rintro u8 w8 ⟨k8, f8⟩
 rw [yest_put] at f8
 obtain ⟨c8, rfl, _⟩ := f8.cells
 refine AE rfl (W_field rfl (show c8[2]? = some (.int .i64 1) from val_at f8) ?_)
 have e8 := e7.trans k8
 have b8 := bx w8 (k47.trans k8)
 refine AE rfl (Ai rfl rfl (by omega) (AK rfl (AB rfl (AB rfl (AE rfl (AM rfl ?_))))))
 refine AE rfl (Ac rfl b8 rfl ?_)
 refine AE rfl (AQ (rone_ok w8 8 _ Cd (f4.ext (k47.trans k8))) rfl ?_)
 rintro u9 w9 ⟨k9, f9⟩
 obtain ⟨c9, rfl, _⟩ := f9.cells
 have e9 := e8.trans k9
 have e19 := (e17.trans k8).trans k9
 refine AE rfl (AQ (Step_ok w9 _ _ Sg2 _ (opF 8 [Cd]) 1 (hS.ext e19) f9 (hG.ext e9) (hK.keep e9 (by simp)) (Nat.le_trans hN e9.size)) rfl ?_)
 rintro u10 w10 ⟨k10, f10⟩
 rw [yest_step] at f10
 obtain ⟨c10, rfl, _⟩ := f10.cells
 refine AE rfl (W_field rfl (show c10[2]? = some (.int .i64 1) from val_at f10) ?_)
 have e10 := e9.trans k10
 have e110 := e19.trans k10
 refine AE rfl (Ai rfl rfl (by omega) (AK rfl (AB rfl (AB rfl (AE rfl (AM rfl ?_))))))
 refine AE rfl (AQ (response_ok w10 (hG.ext e10) (hK.keep e10 (by simp)) (Nat.le_trans hN e10.size)) rfl ?_)
 rintro u11 w11 ⟨f11, k11⟩
 obtain ⟨c11, rfl, _⟩ := f11.cells
 have e11 := e10.trans k11
 have e111 := e110.trans k11
 refine AE rfl (Ab (out := [.int .i64 1]) rfl (by omega) (by rw [madeInt]; rfl) (fun w12 n12 => ?_))
 refine AE rfl (Ab (out := [.int .i64 2]) rfl (by omega) (by rw [madeInt]; rfl) (fun w13 n13 => ?_))
 have hl13 : Las w13 [.slice (some ⟨w11.heap.size, 0, none⟩) 1 1, .slice (some ⟨w12.heap.size, 0, none⟩) 1 1] 1 2 := ⟨_, _, _, _, _, _, rfl, (n12.blk.keep n13.keep (by simp)).cell rfl, n13.blk.cell rfl⟩
 have k13 := (n12.keep).trans n13.keep
 have e13 := e11.trans k13
 have e113 := e111.trans k13
 refine AE rfl (BE (by rfl) (by rfl) ?_)
 refine AE rfl (AQ (holds_ok w13 _ _ Sg2 _ respK _ 1 2 (hS.ext e113) sg_valid (f11.ext k13) resp_ker hl13 (by rw [sg_num]; omega) (by rw [sg_num]; omega) (hG.ext e13) (hK.keep e13 (by simp)) (Nat.le_trans hN e13.size)) rfl ?_)
 rintro _ w14 ⟨rfl, k14⟩
 rw [resp_yes]
 have e14' := e13.trans k14
 have e114 := e113.trans k14
 refine AK rfl (AB rfl (AB rfl (AE rfl (AM rfl ?_))))
 refine AE rfl (AQ (response_ok w14 (hG.ext e14') (hK.keep e14' (by simp)) (Nat.le_trans hN e14'.size)) rfl ?_)
 rintro u15 w15 ⟨f15, k15⟩
 obtain ⟨c15, rfl, _⟩ := f15.cells
 have e15 := e14'.trans k15
 have e115 := e114.trans k15
 refine AE rfl (Ab (out := [.int .i64 2]) rfl (by omega) (by rw [madeInt]; rfl) (fun w16 n16 => ?_))
 refine AE rfl (Ab (out := [.int .i64 1]) rfl (by omega) (by rw [madeInt]; rfl) (fun w17 n17 => ?_))
 have hl17 : Las w17 [.slice (some ⟨w15.heap.size, 0, none⟩) 1 1, .slice (some ⟨w16.heap.size, 0, none⟩) 1 1] 2 1 := ⟨_, _, _, _, _, _, rfl, (n16.blk.keep n17.keep (by simp)).cell rfl, n17.blk.cell rfl⟩
 have k17 := (n16.keep).trans n17.keep
 have e17' := e15.trans k17
 have e117 := e115.trans k17
 refine AE rfl (BE (by rfl) (by rfl) ?_)
 refine AE rfl (AQ (holds_ok w17 _ _ Sg2 _ respK _ 2 1 (hS.ext e117) sg_valid (f15.ext k17) resp_ker hl17 (by rw [sg_num]; omega) (by rw [sg_num]; omega) (hG.ext e17') (hK.keep e17' (by simp)) (Nat.le_trans hN e17'.size)) rfl ?_)
 rintro _ w18 ⟨rfl, k18⟩
 rw [resp_no]
 refine AE rfl (Ak rfl (AK rfl (AB rfl (AC (AB rfl ?_)))))
 repeat refine nx rfl ?_
 exact AI rfl ⟨rfl, e17'.trans k18⟩
end Go.Proofs.YtkhhjdjmhbdjfaaGreatDoor
namespace Go.Proofs.YtkhhjdjmhbdjfaaGreatDoor
open Go.RowKit
set_option linter.unusedVariables false
theorem wsmall_ok (w : World) (sa : Option Addr) (sc : Nat) (S : List Sgn) (v : Value) (f : Fml) (hSg : SlAt sgnR As w (.slice sa S.length sc) S) (hf : FAt As w v f) :
  Fn Tryz.prog 5 [.slice sa S.length sc, v, .int .i64 20] w fun u w' => ∃ b : Bool, u = .bool b ∧ Ext w w' ∧ (b = true → rtQ S f ∧ szF f ≤ 20) := by
 obtain ⟨av, rfl, L, hS, hFA⟩ := hf.form
 obtain ⟨a, c, rfl, hS'⟩ := id hS
 have hcap : f.args.length ≤ 9223372036854775807 := by obtain ⟨h1, h2, _⟩ := hS'; omega
 clear hS'
 have hsz := BW f
 refine AR Tryz.func5 rfl Tryz.ntmps5 (Nat.le_of_ble_eq_true rfl) (by kernel_rfl) ?_
 repeat refine nx rfl ?_
 (refine AA ?_; refine A5 (L := fcC f (.slice a f.args.length c)) rfl (fun w1 n1 => ?_))
 have b1 := n1.blk
 have k1 := n1.keep
 refine AC (AB rfl ?_)
 repeat refine nx rfl ?_
 clear hsz
 refine AA (AM rfl ?_)
 refine AQ (rssmall_ok w1 _ S (hSg.ext k1)) rfl ?_
 rintro _ w2 ⟨b, rfl, k2⟩
 have e2 := k1.trans k2
 have b2 := b1.keep k2 (by simp)
 cases b with
 | false =>
  refine AB rfl ?_
  refine AL rfl (AL rfl (AL rfl (AJ rfl (AB rfl (AB rfl (AL rfl (AL rfl (AL rfl (AJ rfl (AB rfl (AC (AB rfl ?_))))))))))))
  repeat refine nx rfl ?_
  exact AI rfl ⟨false, rfl, e2, fun h => by cases h⟩
 | true =>
 refine AB rfl ?_
 refine AE rfl (Ac (L := fcC f (.slice a f.args.length c)) rfl b2 rfl ?_)
 refine AE rfl (AG rfl ?_)
 refine AE rfl (AQ (rsmall_ok w2 _ f 20 (by omega) (hf.ext e2)) rfl ?_)
 rintro _ w3 ⟨rfl, k3⟩
 have e3 := e2.trans k3
 have b3 := b2.keep k3 (by simp)
 by_cases h20 : szF f ≤ 20
 case neg =>
  rw [decide_eq_false h20]
  refine AK rfl (AB rfl (AB rfl (AL rfl ?_)))
  refine AL rfl (AL rfl (AJ rfl (AB rfl (AC (AB rfl ?_)))))
  repeat refine nx rfl ?_
  exact AI rfl ⟨false, rfl, e3, fun h => by cases h⟩
 rw [decide_eq_true h20]
 refine AK rfl (AB rfl (AB rfl (AE rfl (AM rfl ?_))))
 refine AE rfl (Ac (L := fcC f (.slice a f.args.length c)) rfl b3 rfl ?_)
 refine AE rfl (AQ (right_ok w3 sa sc S _ f (hSg.ext e3) (hf.ext e3)) rfl ?_)
 rintro _ w4 ⟨b, rfl, k4, q4⟩
 cases b with
 | false =>
  refine AK rfl (AB rfl (AC (AB rfl ?_)))
  repeat refine nx rfl ?_
  exact AI rfl ⟨false, rfl, e3.trans k4, fun h => by cases h⟩
 | true =>
  refine AK rfl (AB rfl (AC (AB rfl ?_)))
  repeat refine nx rfl ?_
  exact AI rfl ⟨true, rfl, e3.trans k4, fun _ => ⟨q4 rfl, h20⟩⟩
theorem memI_snoc (l : List Fml) (x : Vl) : ∀ (xs : List Vl) (m : Nat), memI l (xs ++ [x]) m = nextI x l (memI l xs m)
 | [], m => rfl
 | y :: xs, m => memI_snoc l x xs _
theorem small_kern {f : Fml} {S : List Sgn} (h : rtQ S f) (hz : szF f ≤ 20) : Ci f = true ∧ A9 false f = true := by
 obtain ⟨_, _, hb⟩ := loose_parts (looQ_G h.2.1)
 refine ⟨?_, hb⟩
 have := dp_sz f
 unfold Ci
 rw [decide_eq_true (by omega), decide_eq_true (by omega), bareG_eq (by omega), hb]; rfl
theorem memI_lt (l : List Fml) : ∀ (xs : List Vl) (m : Nat), m < 2 ^ l.length → memI l xs m < 2 ^ l.length
 | [], m, h => h
 | x :: xs, m, h => memI_lt l xs _ (bits_lt _ _)
theorem topAged_ok (w : World) (sa : Option Addr) (sc : Nat) (S : List Sgn) (v : Value) (f : Fml) (la : Option Addr) (lc : Nat) (xs : List Int) (hSg : SlAt sgnR As w (.slice sa S.length sc) S) (hf : FAt As w v f) (hxs : Sl As w (.slice la xs.length lc) xs.length (xs.map (.int .i64))) (hG : GF w) (hK : KY w) (hN : 3 ≤ w.heap.size) :
  Fn Tryz.prog 3 [.slice sa S.length sc, v, .slice la xs.length lc] w fun u w' => u = .bool true ∧ Ext w w' := by
 have hxl : xs.length ≤ 9223372036854775807 := by obtain ⟨_, _, hv, g1, g2, _⟩ := id hxs; cases hv; omega
 obtain ⟨av, rfl, L, hS, hFA⟩ := hf.form
 obtain ⟨a, c, rfl, hS'⟩ := id hS
 have hcap : f.args.length ≤ 9223372036854775807 := by obtain ⟨h1, h2, _⟩ := hS'; omega
 clear hS'
 have hsz := BW f
 refine AR Tryz.func3 rfl Tryz.ntmps3 (Nat.le_of_ble_eq_true rfl) (by kernel_rfl) ?_
 repeat refine nx rfl ?_
 (refine AA ?_; refine A5 (L := fcC f (.slice a f.args.length c)) rfl (fun w1 n1 => ?_))
 have b1 := n1.blk
 have k1 := n1.keep
 refine AC (AB rfl ?_)
 repeat refine nx rfl ?_
 clear hsz
 refine AA ?_
 refine AQ (remembers_ok2 w1 (hG.ext k1) (hK.keep k1 (by simp)) (Nat.le_trans hN k1.size)) rfl ?_
 rintro _ w2 ⟨rfl, k2⟩
 refine AC (AB rfl ?_)
 repeat refine nx rfl ?_
 have e2 := k1.trans k2
 have b2 := b1.keep k2 (by simp)
 refine AA (AM rfl ?_)
 refine Ac (L := fcC f (.slice a f.args.length c)) rfl b2 rfl ?_
 refine AQ (wsmall_ok w2 sa sc S _ f (hSg.ext e2) (hf.ext e2)) rfl ?_
 rintro _ w3 ⟨b, rfl, k3, q3⟩
 have e3 := e2.trans k3
 have b3 := b2.keep k3 (by simp)
 cases b with
 | false =>
  refine Ak rfl (AB rfl (AL rfl (AL rfl (AL rfl (AK rfl (AB rfl ?_))))))
  repeat refine nx rfl ?_
  refine AA (AB rfl (AC (AB rfl ?_)))
  repeat refine nx rfl ?_
  exact AI rfl ⟨rfl, e3⟩
 | true =>
 obtain ⟨hq, hz20⟩ := q3 rfl
 by_cases h6 : xs.length ≤ 6
 case neg =>
  refine Ak rfl (AB rfl (AE rfl (AM rfl (AE rfl (AZ rfl (AE rfl (Co rfl rfl (by omega) (AJ rfl (AB rfl ?_)))))))))
  repeat refine nx rfl ?_
  refine AA (AB rfl (AC (AB rfl ?_)))
  repeat refine nx rfl ?_
  exact AI rfl ⟨rfl, e3⟩
 refine Ak rfl (AB rfl (AE rfl (AM rfl (AE rfl (AZ rfl (AE rfl (B9 rfl rfl (by omega) (AJ rfl (AB rfl ?_)))))))))
 repeat first | refine nx rfl ?_ | refine nf rfl ?_
 obtain ⟨hker, hbare⟩ := small_kern hq hz20
 obtain ⟨hvS, hqL, hisB⟩ := id hq
 refine AA ?_
 refine Ac (L := fcC f (.slice a f.args.length c)) rfl b3 rfl ?_
 refine AQ (pnodesW_ok w3 _ f (hf.ext e3) (hG.ext e3) (hK.keep e3 (by simp)) (Nat.le_trans hN e3.size) hker) rfl ?_
 rintro u4 w4 ⟨hN4, k4⟩
 have e4 := e3.trans k4
 have b4 := b3.keep k4 (by simp)
 obtain ⟨na, nc, rfl, hnl⟩ := hN4.len
 refine AC (AM rfl ?_)
 repeat refine nx rfl ?_
 by_cases h8 : (BQ f).length ≤ 8
 case neg =>
  refine AA (AM rfl (AZ rfl (Co rfl rfl (by omega) ?_)))
  repeat refine nx rfl ?_
  refine AA (AB rfl (AC (AB rfl ?_)))
  repeat refine nx rfl ?_
  exact AI rfl ⟨rfl, e4⟩
 refine AA (AM rfl (AZ rfl (B9 rfl rfl (by omega) ?_)))
 repeat first | refine nx rfl ?_ | refine nf rfl ?_
 have hlist := nodes_list hker h8
 have hev := nodes_ev (S := S) hbare hisB
 have z4 := e4.size
 have hN4u : SlAt fmlR (fun b => Unm w4 b) w4 (.slice na (BQ f).length nc) (BQ f) := hN4.mono fun b hb => hb.2
 have hN4l := hN4u.lt (show (0 : Nat) < 5 by omega)
 refine AA (AM rfl ?_)
 refine AQ (start_ok w4 _ (BQ f) _ hN4u (fun b hb => hb) (hG.ext e4) (hK.keep e4 (by simp)) (Nat.le_trans hN e4.size) hlist) rfl ?_
 rintro _ w5 ⟨rfl, k5⟩
 refine AC (AG rfl ?_)
 repeat refine nx rfl ?_
 have e5 := e4.trans k5
 have b5 := b4.keep k5 (by simp)
 have z5 := k5.size
 have l5 := b5.lt
 refine AA ?_
 refine Ac (L := fcC f (.slice a f.args.length c)) rfl b5 rfl ?_
 refine Cv (cs := fcC f (.slice a f.args.length c)) rfl rfl (by rfl) (FAt.one hf) (fun w6 n6 => ?_)
 repeat refine nx rfl ?_
 have e6 := e5.trans n6.keep
 have b6 := b5.keep n6.keep (by simp)
 have z6 := n6.size
 have b10 := n6.blk
 have k46 := k5.trans n6.keep
 obtain ⟨t10, ht10⟩ : ∃ t10, t10 = w5.heap.size := ⟨_, rfl⟩
 rw [← ht10] at b10 ⊢
 have hfl : FAt (fun b => b ≠ t10) w6 (.agg (fcC f (.slice a f.args.length c)).toArray) f := ((hf.lt).ext e6).mono fun b hb => by have := hb.2; omega
 refine AA (AC (AG rfl ?_))
 repeat refine nx rfl ?_
 refine A3 (α := Nat × List Value) (fun | (k, _) => [(0, .slice sa S.length sc), (2, .slice la xs.length lc), (4, pt w.heap.size), (7, .bool true), (8, .slice na (BQ f).length nc), (9, .int .i64 (memI (BQ f) ((xs.take k).map (vlS S)) (startI (BQ f)) : Nat)), (10, pt t10), (11, .int .i64 (k : Int))])
  (fun | (k, cs), W => k ≤ xs.length ∧ Keep [t10] w6 W ∧ Blk W t10 25 cs ∧ cs.length = 5 ∧ FAt (fun b => b ≠ t10) W (.agg cs.toArray) (CB k f) ∧ ∀ (i : Nat) (x : Int), i < k → xs[i]? = some x → 0 ≤ x ∧ x < Bm S) (fun | (k, _) => xs.length - k) (0, fcC f (.slice a f.args.length c)) ⟨rfl, rfl, rfl, rfl, rfl, rfl, rfl, rfl, trivial⟩ ⟨by omega, Keep.refl _ _, b10, rfl, hfl, fun i x hi => absurd hi (by omega)⟩ ?_
 rintro ⟨k, cs⟩ W fr ⟨hk, kW, bW, hcs, fW, hvx⟩
 have eW : Ext w W := e6.keep kW (by simp; omega)
 have bfW : Blk W w.heap.size 25 (fcC f (.slice a f.args.length c)) := b6.keep kW (by simp; omega)
 have hNW : SlAt fmlR (fun b => Unm W b) W (.slice na (BQ f).length nc) (BQ f) := ((hN4l.ext k46).keep kW (fun b hb hm => by have := hb.2; simp at hm; omega)).mono fun b hb => (hb.1.eq (k46.block b hb.2 (by simp))).eq (kW.block b (by have := hb.2; omega) (by have := hb.2; simp; omega))
 have hm2 := memI_lt (BQ f) ((xs.take k).map (vlS S)) (startI (BQ f)) (bits_lt _ _)
 have hNsz : 3 ≤ W.heap.size := Nat.le_trans hN eW.size
 have lt10 := bW.lt
 repeat refine nx rfl ?_
 by_cases hlt : k < xs.length
 ·obtain ⟨x, hx⟩ : ∃ x, xs[k]? = some x := ⟨_, List.getElem?_eq_getElem hlt⟩
  obtain ⟨a', c', e', _, _, _, h4⟩ := id hxs
  cases e'
  obtain ⟨lb, lo, rfl, _, hlc⟩ := h4.resolve_left (by omega)
  have hcx : ∀ V, Ext w V → V.cell? ⟨lb, lo + k, none⟩ = some (.int .i64 x) := fun V e => e.cell (hlc k _ (by rw [List.getElem?_map, hx]; rfl)) (by simp)
  refine AA (AG rfl (AM rfl (AZ rfl (At rfl rfl (by omega) ?_))))
  repeat refine nx rfl ?_
  refine Ad (.read 0 (.read 1 (.read 2 (.read 3 (.read 4 (.read 5 (.read 6 (.read 7 (.read 8 (.read 9 (.read 10 (.alt 11 (.read 12 (.read 13 .done)) .stop)))))))))))) Ax (by kernel_rfl) (fun wd kd ed => ⟨Ext wd, ?_, ?_⟩)
  ·exact Ext.refl _
  have s1 : ∀ V, Ext wd V → V.cell? ⟨lb, lo + k, none⟩ = some (.int .i64 x) := fun V e => hcx V (eW.trans (kd.trans e))
  by_cases hx0 : 0 ≤ x
  case neg =>
   refine D_R rfl rfl (fun W hW => AM rfl Z3) (D_R rfl rfl (fun W hW => AG rfl Z3) (D_R rfl rfl (fun W hW => BL rfl rfl rfl (by omega) Z3) (D_R rfl rfl (fun W hW => AF rfl (s1 W hW) Z3) (D_lssT rfl rfl rfl rfl (by omega) (D_R rfl rfl (fun W hW => AB rfl Z3) (Am rfl rfl rfl rfl (Am rfl rfl rfl rfl (Am rfl rfl rfl rfl (Am rfl rfl rfl rfl (Am rfl rfl rfl rfl ?_))))))))))
   refine D_E rfl ?_
   refine AL rfl ?_
   refine AO ⟨Ext wd, fun _ e => e, Ext.refl _, ?_⟩
   refine Am rfl rfl rfl rfl (D_R rfl rfl (fun W hW => AK rfl (AB rfl Z3)) (Ah ?_))
   repeat refine nx rfl ?_
   refine AA (AB rfl (AC (AB rfl ?_)))
   repeat refine nx rfl ?_
   exact AI rfl ⟨rfl, eW.trans kd⟩
  refine D_R rfl rfl (fun W hW => AM rfl Z3) (D_R rfl rfl (fun W hW => AG rfl Z3) (D_R rfl rfl (fun W hW => BL rfl rfl rfl (by omega) Z3) (D_R rfl rfl (fun W hW => AF rfl (s1 W hW) Z3) (D_lssF rfl rfl rfl rfl (by omega) (D_R rfl rfl (fun W hW => AB rfl Z3) (D_R rfl rfl (fun W hW => AE rfl (AM rfl Z3)) (D_R rfl rfl (fun W hW => AE rfl (AG rfl Z3)) (D_R rfl rfl (fun W hW => AE rfl (BL rfl rfl rfl (by omega) Z3)) (D_R rfl rfl (fun W hW => AE rfl (AF rfl (s1 W hW) Z3)) (D_R rfl rfl (fun W hW => AE rfl (AM rfl Z3)) ?_))))))))))
  refine D_E rfl ?_
  refine AE rfl (AQ (rletters_ok wd _ S (hSg.ext (eW.trans kd)) hvS) rfl ?_)
  rintro _ W1 ⟨rfl, k1'⟩
  refine AO ⟨Ext wd, fun _ e => e, k1', ?_⟩
  have eW1 := (eW.trans kd).trans k1'
  by_cases hx1 : x < Bm S
  case neg =>
   refine D_geqT rfl rfl rfl rfl (by omega) (D_R rfl rfl (fun W hW => AJ rfl (AB rfl Z3)) (Ah ?_))
   repeat refine nx rfl ?_
   refine AA (AB rfl (AC (AB rfl ?_)))
   repeat refine nx rfl ?_
   exact AI rfl ⟨rfl, eW1⟩
  refine D_geqF rfl rfl rfl rfl (by omega) (D_R rfl rfl (fun W hW => AJ rfl (AB rfl Z3)) (Ah ?_))
  repeat first | refine nx rfl ?_ | refine nf rfl ?_
  have hcx1 := hcx W1 eW1
  have kd1 := kd.trans k1'
  have hNW1 : SlAt fmlR (fun b => Unm W1 b) W1 (.slice na (BQ f).length nc) (BQ f) := ((hNW.lt (show (0 : Nat) < 5 by omega)).ext kd1).mono fun b hb => hb.1.eq (kd1.block b hb.2 (by simp))
  refine AA (AM rfl (AM rfl (AG rfl (AM rfl (AG rfl (BL rfl rfl rfl (by omega) (AF rfl (by assumption) ?_)))))))
  refine AQ (next_ok W1 _ _ S (BQ f) _ x _ (hSg.ext eW1) hvS hx0 hx1 hNW1 (fun b hb => hb) (hG.ext eW1) (hK.keep eW1 (by simp)) (Nat.le_trans hN eW1.size) hlist hm2 hev) rfl ?_
  rintro _ W2 ⟨rfl, k2'⟩
  refine AC (AG rfl ?_)
  repeat refine nx rfl ?_
  have kd2 := kd1.trans k2'
  have bW2 := bW.keep kd2 (by simp)
  have fW2 := fW.ext kd2
  have zd2 := kd2.size
  obtain ⟨y0, y1, y2, y3, y4, rfl⟩ := A7 hcs
  refine AA ?_
  refine Ac rfl bW2 rfl ?_
  refine AQ (roneX_ok W2 8 (fun b => b ≠ t10) _ (CB k f) fW2 (by omega) (fun b hb => by omega)) rfl ?_
  rintro u W3 ⟨k3', f3⟩
  have bW3 := bW2.keep k3' (by simp)
  refine W_storeF rfl rfl f3 bW3 rfl (fun W4 cs4 e hcs4 k4' z4' b4' => ?_)
  repeat refine nx rfl ?_
  (refine AA (AG rfl (Av rfl rfl (by first | exact AV (by omega) (by omega) | exact AY (by omega) (by omega) | exact AW (by omega) (by omega)) ?_)) <;> refine AC (AG rfl ?_))
  repeat refine nx rfl ?_
  have htk : (xs.take (k + 1)).map (vlS S) = (xs.take k).map (vlS S) ++ [vlS S x] := by rw [List.take_add_one, hx, Option.toList_some, List.map_append]; rfl
  refine ⟨(k + 1, cs4), ⟨rfl, ⟨rfl, rfl, rfl, rfl, rfl, ?_, rfl, ?_, trivial⟩, ⟨by omega, ?_, b4', hcs4, ?_, ?_⟩⟩, by simp only; omega⟩
  ·rw [htk, memI_snoc]; rfl
  ·show Value.int .i64 ((k : Int) + 1) = _
   rw [Int.natCast_add]; rfl
  ·exact ((kW.ext kd2).ext k3').trans k4' (fun b hb _ => hb)
  ·replace e : u = .agg cs4.toArray := e
   rw [e] at f3
   exact f3.keep k4' (fun b hb hm => by simp at hm; exact hb hm)
  ·intro i z hi hz
   by_cases hik : i = k
   ·subst hik; rw [hx] at hz; cases hz; exact ⟨hx0, hx1⟩
   ·exact hvx i z (by omega) hz
 ·obtain e : k = xs.length := by omega
  subst e
  have hvx' : ∀ x ∈ xs, 0 ≤ x ∧ x < Bm S := fun x hx => by
   obtain ⟨i, hi⟩ := List.getElem?_of_mem hx
   exact hvx i x (List.getElem?_eq_some_iff.1 hi).1 hi
  have hlaw := run_law hq hz20 h6 hvx'
  have haged : chF (fun g => bitI (BI (BQ f) (memI (BQ f) ((xs.take xs.length).map (vlS S)) (startI (BQ f))) g)) f = agedN (xs.map (vlS S)) f := by
   rw [List.take_length]; exact put_aged hbare _
  obtain ⟨y0, y1, y2, y3, y4, rfl⟩ := A7 hcs
  refine AA (AG rfl (AM rfl (AZ rfl (Aj rfl rfl (by omega) ?_))))
  repeat first | refine nx rfl ?_ | refine nf rfl ?_
  refine Ad (.read 0 (.read 1 (.read 2 (.read 3 (.read 4 (.read 6 (.read 7 (.read 8 (.alt 5 (.alt 9 (.alt 10 (.alt 11 (.read 12 (.read 13 .done)) .stop) .stop) .stop) .stop))))))))) Ax (by kernel_rfl) (fun wd kd ed => ⟨Ext wd, ?_, ?_⟩)
  ·exact Ext.refl _
  have eWd := eW.trans kd
  have s1 : ∀ V, Ext wd V → Cells V t10 0 [y0, y1, y2, y3, y4] := fun V e => (bW.keep (kd.trans e) (by simp)).cells
  have s2 : ∀ V, Ext wd V → Cells V w.heap.size 0 (fcC f (.slice a f.args.length c)) := fun V e => (bfW.keep (kd.trans e) (by simp)).cells
  (refine D_R rfl rfl (fun W hW => AB rfl Z3) (D_R rfl rfl (fun W hW => AB rfl Z3) (D_R rfl rfl (fun W hW => AE rfl (AM rfl Z3)) ?_)) <;> (apply D_R rfl rfl; (intro W hW; (refine AE rfl ?_; refine Ao rfl (by rfl) (s1 W hW) ?_); exact Z3)) <;> refine D_R rfl rfl (fun W hW => AE rfl (AM rfl Z3)) (D_R rfl rfl (fun W hW => AE rfl (AM rfl Z3)) (D_R rfl rfl (fun W hW => AE rfl (AG rfl Z3)) ?_)) <;> (apply D_R rfl rfl; (intro W hW; (refine AE rfl ?_; refine Ao rfl (by rfl) (s2 W hW) ?_); exact Z3)))
  refine D_E rfl ?_
  refine AE rfl (AQ (Run_ok wd sa sc S _ (CB xs.length f) la lc xs (hSg.ext eWd) ((fW.ext kd).mono fun _ _ => trivial) (hG.ext eWd) (hK.keep eWd (by simp)) (Nat.le_trans hN eWd.size) (hxs.ext eWd)) rfl ?_)
  rintro u7 w7 ⟨k7, f7⟩
  refine AO ⟨Ext wd, fun _ e => e, k7, ?_⟩
  have e7 := eWd.trans k7
  have kd7 := kd.trans k7
  have hN7 : SlAt fmlR (fun b => Unm w7 b) w7 (.slice na (BQ f).length nc) (BQ f) := ((hNW.lt (show (0 : Nat) < 5 by omega)).ext kd7).mono fun b hb => hb.1.eq (kd7.block b hb.2 (by simp))
  refine D_E rfl ?_
  refine AE rfl (AQ (put_ok w7 _ _ f (BQ f) _ _ hN7 (hf.ext e7) (fun b hb => hb) (hG.ext e7) (hK.keep e7 (by simp)) (Nat.le_trans hN e7.size) hlist hm2 hker (fun x hx => mem_nodes.2 hx)) rfl ?_)
  rintro u8 w8 ⟨k8, f8⟩
  rw [haged] at f8
  refine AO ⟨Ext wd, fun _ e => e, k7.trans k8, ?_⟩
  have e8 := e7.trans k8
  obtain ⟨c8, rfl, _⟩ := f8.cells
  refine D_E rfl ?_
  refine AE rfl (AQ (Canon_ok w8 _ (agedN (xs.map (vlS S)) f) (f8.mono fun _ _ => trivial) (hG.ext e8) (hK.keep e8 (by simp)) (Nat.le_trans hN e8.size)) rfl ?_)
  rintro u9 w9 ⟨k9, f9⟩
  refine AO ⟨Ext wd, fun _ e => e, (k7.trans k8).trans k9, ?_⟩
  obtain ⟨c7, rfl, _⟩ := f7.cells
  obtain ⟨c9, rfl, _⟩ := f9.cells
  refine D_E rfl ?_
  refine AE rfl (AQ (same_ok w9 _ _ _ _ ((f7.ext (k8.trans k9)).mono fun _ _ => trivial) (f9.mono fun _ _ => trivial)) rfl ?_)
  rintro _ w10 ⟨b, rfl, hb, k10⟩
  rw [hb.2 hlaw]
  refine AO ⟨Ext wd, fun _ e => e, ((k7.trans k8).trans k9).trans k10, ?_⟩
  refine D_R rfl rfl (fun W hW => AK rfl (AB rfl Z3)) (D_R rfl rfl (fun W hW => AC (AB rfl Z3)) (Ah ?_))
  repeat refine nx rfl ?_
  exact AI rfl ⟨rfl, (e8.trans k9).trans k10⟩
end Go.Proofs.YtkhhjdjmhbdjfaaGreatDoor
namespace Go.Proofs.YtkhhjdjmhbdjfaaGreatDoor
open Go.ChangeShapes Go.WideShapes Go.ChangeAt Go.RowKit
set_option linter.unusedVariables false
theorem lenF {cs : List Value} (h : cs.length = 5) : ∃ c0 c1 c2 c3 c4, cs = [c0, c1, c2, c3, c4] := by
 match cs, h with
 | [a, b, c, d, e], _ => exact ⟨a, b, c, d, e, rfl⟩
theorem lenG {cs : List Value} (h : cs.length = 3) : ∃ c0 c1 c2, cs = [c0, c1, c2] := by
 match cs, h with
 | [a, b, c], _ => exact ⟨a, b, c, rfl⟩
theorem cell_eq {w : World} {b i j : Nat} (h : i = j) : w.cell? ⟨b, i, none⟩ = w.cell? ⟨b, j, none⟩ := by rw [h]
section
variable {H : Type} {enc : TypeId × Value → H} {W : World} {sp : Nat → Bool} {hd : Bool}
theorem open_rows {α : Type} [Inhabited α] {t e : TypeId} {c fuel : Nat} {cs : List Value} {x : DataW H × List MemPlace} (Q : List Value → α → Prop) (ht : Tryz.prog.underlying t = some (.slice e)) (hc : Tryz.prog.cellsOf e = c) (h0 : 0 < c)
  (hQ : ∀ (n : Nat) (cs : List Value) (x : DataW H × List MemPlace), n < fuel → DataW.trod enc Tryz.prog W 0 sp hd n e cs = some x → ∃ a, Q cs a) (h : DataW.trod enc Tryz.prog W 0 sp hd fuel t cs = some x) :
  ∃ (a : Option Addr) (k : Nat) (L : List (List Value)) (l : List α), cs = [.slice a l.length k] ∧ Sl As W (.slice a l.length k) l.length L.flatten ∧ L.length = l.length ∧ (∀ d ∈ L, d.length = c) ∧ ∀ (i : Nat) (d : List Value) (a : α), L[i]? = some d → l[i]? = some a → Q d a := by
 rcases DataW.trod_slice ht h with ⟨rfl, _⟩ | ⟨a, len, cap, elems, rest, n, rfl, rfl, _, _, hl, hm, hlen, hel, _, _⟩
 ·exact ⟨none, 0, [], [], rfl, ⟨none, 0, rfl, Nat.le_refl _, by omega, fun _ => rfl, .inl rfl⟩, rfl, (fun d hd => by cases hd), fun i d a h => by simp at h⟩
 ·rw [hc] at hel
  obtain ⟨D, hD⟩ := Deep.choose_lt (α := List Value × α) (n := len) (p := fun i q => W.cells? 0 (a.add (i * c)) c = some q.1 ∧ Q q.1 q.2) (fun i hi => by
   have h1 := hel i hi
   rw [List.getElem?_eq_getElem (by omega)] at h1
   obtain ⟨cs', h2, h3⟩ := Option.bind_eq_some_iff.1 h1
   obtain ⟨b, hb⟩ := hQ n cs' _ (Nat.lt_succ_self n) h3
   exact ⟨(cs', b), h2, hb⟩)
  have hlen' : ∀ i, i < len → (D i).1.length = c := fun i hi => (World.cells?_some (hD i hi).1).2.1
  have hrow : ∀ d ∈ ((List.range len).map fun i => (D i).1), d.length = c := by
   intro d hd
   obtain ⟨i, hi, rfl⟩ := List.mem_map.1 hd
   exact hlen' i (List.mem_range.1 hi)
  have hll : ((List.range len).map fun i => (D i).2).length = len := by simp
  refine ⟨some a, cap, (List.range len).map fun i => (D i).1, (List.range len).map fun i => (D i).2, by rw [hll], ⟨some a, cap, rfl, by omega, by simp only [maxLen] at hm; omega, (fun h => by cases h), ?_⟩, by simp, hrow, ?_⟩
  ·by_cases hz : len = 0
   ·left; omega
   ·right
    have hc0 := (World.cells?_some (hD 0 (by omega)).1).2.2 0 h0
    have hs : a.spot = none := by
     have hd0 := hlen' 0 (by omega)
     rw [List.getElem?_eq_getElem (by omega)] at hc0
     have := spot_none hc0
     simpa [Addr.add] using this
    obtain ⟨b, off, s⟩ := a
    simp only at hs
    subst hs
    refine ⟨b, off, rfl, trivial, fun i u hu => ?_⟩
    have hlt := (List.getElem?_eq_some_iff.1 hu).1
    rw [CT c _ hrow] at hlt
    simp only [List.length_map, List.length_range] at hlt
    have hk : i / c < len := (Nat.div_lt_iff_lt_mul h0).2 hlt
    have hj : i % c < c := Nat.mod_lt _ h0
    have hrk : ((List.range len).map fun i => (D i).1)[i / c]? = some (D (i / c)).1 := by
     rw [List.getElem?_map, List.getElem?_range hk]; rfl
    have hdk := hlen' _ hk
    have hv : (D (i / c)).1[i % c]? = some (D (i / c)).1[i % c] := List.getElem?_eq_getElem (by omega)
    have h1 := C9 c _ _ _ _ _ hrow hrk hv
    have hi : i / c * c + i % c = i := by rw [Nat.mul_comm]; exact Nat.div_add_mod i c
    rw [hi] at h1
    have h2 := (World.cells?_some (hD _ hk).1).2.2 (i % c) hj
    rw [Addr.add_lit, Addr.add_lit, hv] at h2
    have e : u = (D (i / c)).1[i % c] := Option.some.inj (hu.symm.trans h1)
    rw [e, ← h2]
    exact cell_eq (by omega)
  ·intro i d b hd hb
   obtain ⟨h1, rfl⟩ := List.getElem?_eq_some_iff.1 hd
   obtain ⟨_, rfl⟩ := List.getElem?_eq_some_iff.1 hb
   simp at h1
   simp only [List.getElem_map, List.getElem_range]
   exact (hD i (by omega)).2
theorem cellF : Tryz.prog.cellsOf 25 = 5 := by kernel_rfl
theorem cellSg : Tryz.prog.cellsOf 70 = 3 := by kernel_rfl
theorem cellI : Tryz.prog.cellsOf 3 = 1 := by kernel_rfl
theorem cellB : Tryz.prog.cellsOf 4 = 1 := by kernel_rfl
theorem cellSt : Tryz.prog.cellsOf 9 = 1 := by kernel_rfl
theorem cellFs : Tryz.prog.cellsOf 23 = 1 := by kernel_rfl
theorem strV_toList (s : ByteArray) : Value.string s = An s.data.toList := by simp [An]
theorem Ce {β : Type} {xs : List β} {n i : Nat} (h : xs.length = n) (hi : i < n) : ∃ y, xs[i]? = some y := ⟨_, List.getElem?_eq_getElem (by omega)⟩
theorem open_fml : ∀ (fuel : Nat) (cs : List Value) (x : DataW H × List MemPlace), DataW.trod enc Tryz.prog W 0 sp hd fuel 25 cs = some x → ∃ f : Fml, fmlR.fits As W cs f := by
 intro fuel
 induction fuel using Nat.strongRecOn with
 | ind fuel ih =>
 intro cs x h
 obtain ⟨xs, n, rfl, _, hl, hxl, hf⟩ := DataW.trod_struct Tryz.underlying25 h
 rw [cellF] at hl
 obtain ⟨c0, c1, c2, c3, c4, rfl⟩ := lenF hl
 have hx5 : xs.length = 5 := hxl
 have f0 : DataW.trod enc Tryz.prog W 0 sp hd n 3 ((List.drop 0 [c0, c1, c2, c3, c4]).take (Tryz.prog.cellsOf 3)) = xs[0]? := hf 0 _ rfl
 have f1 : DataW.trod enc Tryz.prog W 0 sp hd n 9 ((List.drop 1 [c0, c1, c2, c3, c4]).take (Tryz.prog.cellsOf 9)) = xs[1]? := hf 1 _ rfl
 have f2 : DataW.trod enc Tryz.prog W 0 sp hd n 3 ((List.drop 2 [c0, c1, c2, c3, c4]).take (Tryz.prog.cellsOf 3)) = xs[2]? := hf 2 _ rfl
 have f3 : DataW.trod enc Tryz.prog W 0 sp hd n 3 ((List.drop 3 [c0, c1, c2, c3, c4]).take (Tryz.prog.cellsOf 3)) = xs[3]? := hf 3 _ rfl
 have f4 : DataW.trod enc Tryz.prog W 0 sp hd n 23 ((List.drop 4 [c0, c1, c2, c3, c4]).take (Tryz.prog.cellsOf 23)) = xs[4]? := hf 4 _ rfl
 rw [cellI] at f0 f2 f3
 rw [cellSt] at f1
 rw [cellFs] at f4
 obtain ⟨y0, g0⟩ := Ce (i := 0) hx5 (by omega)
 obtain ⟨y1, g1⟩ := Ce (i := 1) hx5 (by omega)
 obtain ⟨y2, g2⟩ := Ce (i := 2) hx5 (by omega)
 obtain ⟨y3, g3⟩ := Ce (i := 3) hx5 (by omega)
 obtain ⟨y4, g4⟩ := Ce (i := 4) hx5 (by omega)
 obtain ⟨op, e0, _, _⟩ := DataW.trod_int Tryz.underlying3 (f0.trans g0)
 obtain ⟨s, e1, _, _⟩ := DataW.trod_string Tryz.underlying9 (f1.trans g1)
 obtain ⟨v, e2, _, _⟩ := DataW.trod_int Tryz.underlying3 (f2.trans g2)
 obtain ⟨b, e3, _, _⟩ := DataW.trod_int Tryz.underlying3 (f3.trans g3)
 have : Inhabited Fml := ⟨Af⟩
 obtain ⟨a, k, L, l, e4, hS, hL, h5, hA⟩ := open_rows (fun d g => fmlR.fits As W d g) Tryz.underlying23 cellF (by omega) (fun m cs x hm hx => ih m (by omega) cs x hx) (f4.trans g4)
 have e0' : c0 = .int .i64 op := by simpa using e0
 have e1' : c1 = An s.data.toList := by rw [← strV_toList]; simpa using e1
 have e2' : c2 = .int .i64 v := by simpa using e2
 have e3' : c3 = .int .i64 b := by simpa using e3
 have e4' : c4 = .slice a l.length k := by simpa using e4
 subst e0' e1' e2' e3' e4'
 exact ⟨⟨op, s.data.toList, v, b, l⟩, rfl, .mk op _ v b l _ L hS hL h5 fun i c g hc hg => (hA i c g hc hg).2⟩
theorem open_sgn {fuel : Nat} {cs : List Value} {x : DataW H × List MemPlace} (h : DataW.trod enc Tryz.prog W 0 sp hd fuel 70 cs = some x) : ∃ r : Sgn, sgnR.fits As W cs r := by
 obtain ⟨xs, n, rfl, _, hl, hxl, hf⟩ := DataW.trod_struct Tryz.underlying70 h
 rw [cellSg] at hl
 obtain ⟨c0, c1, c2, rfl⟩ := lenG hl
 have hx3 : xs.length = 3 := hxl
 have f0 : DataW.trod enc Tryz.prog W 0 sp hd n 9 ((List.drop 0 [c0, c1, c2]).take (Tryz.prog.cellsOf 9)) = xs[0]? := hf 0 _ rfl
 have f1 : DataW.trod enc Tryz.prog W 0 sp hd n 4 ((List.drop 1 [c0, c1, c2]).take (Tryz.prog.cellsOf 4)) = xs[1]? := hf 1 _ rfl
 have f2 : DataW.trod enc Tryz.prog W 0 sp hd n 3 ((List.drop 2 [c0, c1, c2]).take (Tryz.prog.cellsOf 3)) = xs[2]? := hf 2 _ rfl
 rw [cellI] at f2
 rw [cellSt] at f0
 rw [cellB] at f1
 obtain ⟨y0, g0⟩ := Ce (i := 0) hx3 (by omega)
 obtain ⟨y1, g1⟩ := Ce (i := 1) hx3 (by omega)
 obtain ⟨y2, g2⟩ := Ce (i := 2) hx3 (by omega)
 obtain ⟨s, e0, _, _⟩ := DataW.trod_string Tryz.underlying9 (f0.trans g0)
 obtain ⟨t, e1, _, _⟩ := DataW.trod_bool Tryz.underlying4 (f1.trans g1)
 obtain ⟨k, e2, _, _⟩ := DataW.trod_int Tryz.underlying3 (f2.trans g2)
 have e0' : c0 = An s.data.toList := by rw [← strV_toList]; simpa using e0
 have e1' : c1 = .bool t := by simpa using e1
 have e2' : c2 = .int .i64 k := by simpa using e2
 subst e0' e1' e2'
 exact ⟨⟨s.data.toList, t, k⟩, rfl⟩
theorem open_sgns {fuel : Nat} {cs : List Value} {x : DataW H × List MemPlace} (h : DataW.trod enc Tryz.prog W 0 sp hd fuel 22 cs = some x) : ∃ (v : Value) (l : List Sgn), cs = [v] ∧ SlAt sgnR As W v l := by
 have : Inhabited Sgn := ⟨⟨[], false, 0⟩⟩
 obtain ⟨a, k, L, l, e, hS, hL, _, hA⟩ := open_rows (fun d g => sgnR.fits As W d g) Tryz.underlying22 cellSg (by omega) (fun m cs x _ hx => open_sgn hx) h
 exact ⟨_, l, e, a, k, L, rfl, hS, hL, hA⟩
end
set_option maxRecDepth 100000 in
theorem val_struct {W : World} {r : Reach} {t : TypeId} {fs : Array Field} {v : Value} {b : Nat} (ht : Tryz.prog.underlying t = some (.struct fs)) (hval : Value.okWide Tryz.prog W r b t v) : v = .agg v.cells := by
 obtain ⟨cs, rfl, _⟩ := okWide_struct ht hval
 rfl
section
variable {H : Type} {enc : TypeId × Value → H} {W : World} {sp : Nat → Bool} {hd : Bool} {r : Reach} {b : Nat} {v : Value} {x : DataW H × List MemPlace}
set_option maxRecDepth 100000 in
theorem arg_fml (hval : Value.okWide Tryz.prog W r b 25 v) (h : ∃ n, DataW.trod enc Tryz.prog W 0 sp hd n 25 v.cells.toList = some x) : ∃ f : Fml, FAt As W v f := by
 obtain ⟨n, h⟩ := h
 obtain ⟨f, hf⟩ := open_fml _ _ _ h
 have e := val_struct Tryz.underlying25 hval
 refine ⟨f, ?_⟩
 rw [e]
 simpa using hf.2
set_option maxRecDepth 100000 in
theorem arg_sgns (hval : Value.okWide Tryz.prog W r b 22 v) (h : ∃ n, DataW.trod enc Tryz.prog W 0 sp hd n 22 v.cells.toList = some x) : ∃ l : List Sgn, SlAt sgnR As W v l := by
 obtain ⟨n, h⟩ := h
 obtain ⟨u, l, e, hl⟩ := open_sgns h
 have : v = u := val_one Tryz.underlying22 hval e
 exact ⟨l, this ▸ hl⟩
theorem open_intl {fuel : Nat} {cs : List Value} (h : DataW.trod enc Tryz.prog W 0 sp hd fuel 26 cs = some x) : ∃ (a : Option Addr) (c : Nat) (l : List Int), cs = [.slice a l.length c] ∧ Sl As W (.slice a l.length c) l.length (l.map (.int .i64)) := by
 rcases open_ints Tryz.underlying26 Tryz.underlying3 cellI h with ⟨rfl, _⟩ | ⟨a, len, cap, zs, rfl, _, hl, hm, hz, _, hcell, hw⟩
 ·exact ⟨none, 0, [], rfl, ⟨none, 0, rfl, Nat.le_refl _, by omega, fun _ => rfl, .inl rfl⟩⟩
 ·have hzl : len ≤ zs.length := by rw [hz]; split <;> omega
  have hlt : (zs.take len).length = len := by simp; omega
  refine ⟨some a, cap, zs.take len, by rw [hlt], some a, cap, rfl, by omega, by simp only [maxLen] at hm; omega, (fun h => by cases h), ?_⟩
  by_cases h0 : len = 0
  ·left; omega
  ·right
   have hsub : a.spot = none := spot_none (a := a.add 0) (hcell 0 (by omega))
   obtain ⟨b, off, s⟩ := a
   simp only at hsub
   subst hsub
   refine ⟨b, off, rfl, trivial, fun i u hu => ?_⟩
   have hi : i < len := by
    have := (List.getElem?_eq_some_iff.1 hu).1
    rw [List.length_map] at this; omega
   rw [List.getElem?_map, List.getElem?_take, if_pos hi, List.getElem?_eq_getElem (by omega)] at hu
   cases hu
   have h1 := hcell i (by omega)
   rw [Addr.add_lit] at h1
   rw [h1]
   congr 2
   simp [List.getD_eq_getElem?_getD, show i < zs.length by omega]
set_option maxRecDepth 100000 in
theorem arg_ints (hval : Value.okWide Tryz.prog W r b 26 v) (h : ∃ n, DataW.trod enc Tryz.prog W 0 sp hd n 26 v.cells.toList = some x) : ∃ (a : Option Addr) (c : Nat) (l : List Int), v = .slice a l.length c ∧ Sl As W (.slice a l.length c) l.length (l.map (.int .i64)) := by
 obtain ⟨n, h⟩ := h
 obtain ⟨a, c, l, e, hl⟩ := open_intl h
 exact ⟨a, c, l, val_one Tryz.underlying26 hval e, hl⟩
end
section
variable {H : Type} {enc : TypeId × Value → H} {P : Program} {w : World} {base : Nat} {sp : Nat → Bool} {held : Bool}
theorem trod_arr {fuel : Nat} {t e : TypeId} {n c : Nat} {cs : List Value} {ds : List (DataW H)} {p : List MemPlace} (ht : P.underlying t = some (.array n e)) (hce : P.cellsOf e = c) (hct : P.cellsOf t = n * c)
  (h : DataW.trod enc P w base sp held fuel t cs = some (.agg ds, p)) : cs.length = n * c ∧ ∃ m, ∀ i, i < n → ∃ d q, ds[i]? = some d ∧ DataW.trod enc P w base sp held m e ((cs.drop (i * c)).take c) = some (d, q) := by
 cases fuel with
 | zero => simp [DataW.trod] at h
 | succ fuel =>
  simp only [DataW.trod, ht, hce, hct] at h
  split at h
  ·rename_i hl
   obtain ⟨xs, hm, hx⟩ := Option.map_eq_some_iff.1 h
   have hxs : xs.map (·.1) = ds := by
    have := congrArg Prod.fst hx
    simpa using this
   refine ⟨hl, fuel, fun i hi => ?_⟩
   obtain ⟨b, hb, hf⟩ := Lib.mapM_at hm i i (by simp [hi])
   exact ⟨b.1, b.2, by rw [← hxs, List.getElem?_map, hb]; rfl, hf⟩
  ·cases h
end
theorem cell_of_piece {cs out : List Value} {c i r : Nat} {v : Value} (h : (cs.drop (i * c)).take c = out) (hv : out[r]? = some v) : cs[i * c + r]? = some v := by
 subst h
 rw [List.getElem?_take] at hv
 split at hv
 ·rwa [List.getElem?_drop] at hv
 ·cases hv
theorem sym_piece {w : World} {fuel : Nat} {cs : List Value} {l : List UInt8} {q : List MemPlace} (h : DataW.trod (fun _ => ()) Tryz.prog w 0 (fun _ => true) false fuel 9 cs = some (.lit (.string l), q)) : cs = [An l] := by
 obtain ⟨s, rfl, hx, _⟩ := DataW.trod_string Tryz.underlying9 h
 have := congrArg Prod.fst hx
 simp at this
 rw [this]
theorem int_at {w : World} {fuel i : Nat} {cs : List Value} {xs : List (DataW Unit × List MemPlace)} {ds : List (DataW Unit)} {z : Int} (hf : DataW.trod (fun _ => ()) Tryz.prog w 0 (fun _ => true) false fuel 3 ((cs.drop i).take 1) = xs[i]?) (hd : xs.map (·.1) = ds) (hi : ds[i]? = some (.lit (.int .i64 z))) : cs[i]? = some (.int .i64 z) := by
 rw [← hd, List.getElem?_map] at hi
 obtain ⟨x, hx, hz⟩ := Option.map_eq_some_iff.1 hi
 obtain ⟨n, hn, rfl, _⟩ := DataW.trod_int Tryz.underlying3 (hf.trans hx)
 simp at hz
 subst hz
 have := congrArg (·[0]?) hn
 simpa [List.getElem?_take, List.getElem?_drop] using this
theorem bool_at {w : World} {fuel i : Nat} {cs : List Value} {xs : List (DataW Unit × List MemPlace)} {ds : List (DataW Unit)} {z : Bool} (hf : DataW.trod (fun _ => ()) Tryz.prog w 0 (fun _ => true) false fuel 4 ((cs.drop i).take 1) = xs[i]?) (hd : xs.map (·.1) = ds) (hi : ds[i]? = some (.lit (.bool z))) : cs[i]? = some (.bool z) := by
 rw [← hd, List.getElem?_map] at hi
 obtain ⟨x, hx, hz⟩ := Option.map_eq_some_iff.1 hi
 obtain ⟨n, hn, rfl⟩ := DataW.trod_bool Tryz.underlying4 (hf.trans hx)
 simp at hz
 subst hz
 have := congrArg (·[0]?) hn
 simpa [List.getElem?_take, List.getElem?_drop] using this
def formD (x : Form) : DataW Unit := .agg [.lit (.int .i64 x.least), .lit (.int .i64 x.most), .lit (.int .i64 x.val), .lit (.int .i64 x.bound), .lit (.bool x.named), .lit (.bool x.past), .lit (.bool x.future), .lit (.bool x.loose)]
theorem form_piece {w : World} {fuel : Nat} {cs : List Value} {p : Form} {q : List MemPlace} (h : DataW.trod (fun _ => ()) Tryz.prog w 0 (fun _ => true) false fuel 121 cs = some (formD p, q)) : cs = Bj p := by
 have hc : Tryz.prog.cellsOf 121 = 8 := by kernel_rfl
 have h8 : Tryz.prog.cellsOf 4 = 1 := by kernel_rfl
 have hi : Tryz.prog.cellsOf 3 = 1 := by kernel_rfl
 obtain ⟨xs, n, _, hx, hcl, hxl, hf⟩ := DataW.trod_struct Tryz.underlying121 h
 rw [hc] at hcl
 have hd : xs.map (·.1) = [.lit (.int .i64 p.least), .lit (.int .i64 p.most), .lit (.int .i64 p.val), .lit (.int .i64 p.bound), .lit (.bool p.named), .lit (.bool p.past), .lit (.bool p.future), .lit (.bool p.loose)] := by
  have := congrArg Prod.fst hx
  simpa [formD] using this.symm
 have f0 : DataW.trod (fun _ => ()) Tryz.prog w 0 (fun _ => true) false n 3 ((cs.drop 0).take (Tryz.prog.cellsOf 3)) = xs[0]? := hf 0 _ rfl
 have f1 : DataW.trod (fun _ => ()) Tryz.prog w 0 (fun _ => true) false n 3 ((cs.drop 1).take (Tryz.prog.cellsOf 3)) = xs[1]? := hf 1 _ rfl
 have f2 : DataW.trod (fun _ => ()) Tryz.prog w 0 (fun _ => true) false n 3 ((cs.drop 2).take (Tryz.prog.cellsOf 3)) = xs[2]? := hf 2 _ rfl
 have f3 : DataW.trod (fun _ => ()) Tryz.prog w 0 (fun _ => true) false n 3 ((cs.drop 3).take (Tryz.prog.cellsOf 3)) = xs[3]? := hf 3 _ rfl
 have f4 : DataW.trod (fun _ => ()) Tryz.prog w 0 (fun _ => true) false n 4 ((cs.drop 4).take (Tryz.prog.cellsOf 4)) = xs[4]? := hf 4 _ rfl
 have f5 : DataW.trod (fun _ => ()) Tryz.prog w 0 (fun _ => true) false n 4 ((cs.drop 5).take (Tryz.prog.cellsOf 4)) = xs[5]? := hf 5 _ rfl
 have f6 : DataW.trod (fun _ => ()) Tryz.prog w 0 (fun _ => true) false n 4 ((cs.drop 6).take (Tryz.prog.cellsOf 4)) = xs[6]? := hf 6 _ rfl
 have f7 : DataW.trod (fun _ => ()) Tryz.prog w 0 (fun _ => true) false n 4 ((cs.drop 7).take (Tryz.prog.cellsOf 4)) = xs[7]? := hf 7 _ rfl
 rw [hi] at f0 f1 f2 f3
 rw [h8] at f4 f5 f6 f7
 apply List.ext_getElem?
 intro i
 match i with
 | 0 => exact int_at f0 hd rfl
 | 1 => exact int_at f1 hd rfl
 | 2 => exact int_at f2 hd rfl
 | 3 => exact int_at f3 hd rfl
 | 4 => exact bool_at f4 hd rfl
 | 5 => exact bool_at f5 hd rfl
 | 6 => exact bool_at f6 hd rfl
 | 7 => exact bool_at f7 hd rfl
 | i + 8 => rw [List.getElem?_eq_none (by omega), List.getElem?_eq_none (by simp [Bj])]
def laidL : List (String × DataW Unit) := [("foresight/signal.keys", Rows.laid_foresight_signal_keys), ("foresight/formula.forms", Rows.laid_foresight_formula_forms)]
theorem gt_of_laid {W : World} (h : laidMetH Tryz.prog laidL W) : KY W ∧ GF W := by
 have h' : laidMet Tryz.prog laidL W := h
 obtain ⟨ps, ⟨g6, t6, cs6, fu6, p6, q6, hg6, ht6, hv6, hd6, ⟨g9, t9, cs9, fu9, p9, q9, hg9, ht9, hv9, hd9, _, _⟩, _⟩, _⟩ := h'
 have n6 : Tryz.prog.globalNamed "foresight/signal.keys" = some 1 := by kernel_rfl
 have n9 : Tryz.prog.globalNamed "foresight/formula.forms" = some 0 := by kernel_rfl
 have y9 : (Tryz.prog.globals[0]?).map (·.type) = some 152 := by kernel_rfl
 have y6 : (Tryz.prog.globals[1]?).map (·.type) = some 154 := by kernel_rfl
 obtain rfl := Option.some.inj (n9.symm.trans hg9)
 obtain rfl := Option.some.inj (y9.symm.trans ht9)
 obtain rfl := Option.some.inj (n6.symm.trans hg6)
 obtain rfl := Option.some.inj (y6.symm.trans ht6)
 refine ⟨?_, ?_⟩
 ·obtain ⟨hl, m, hp⟩ := trod_arr (ds := keysL.map fun l => .lit (.string l)) Tryz.underlying154 (by kernel_rfl : Tryz.prog.cellsOf 9 = 1) (by kernel_rfl) hd6
  intro j u hu
  have hj : j < 10 := (List.getElem?_eq_some_iff.1 hu).1
  obtain ⟨p, hsp⟩ : ∃ p, keysL[j]? = some p := ⟨_, List.getElem?_eq_getElem hj⟩
  obtain ⟨d, q, hd, ht⟩ := hp j hj
  rw [List.getElem?_map, hsp] at hd
  cases hd
  have c1 := cell_of_piece (r := 0) (sym_piece ht) rfl
  have hu' : (keysL.map An)[j]? = some u := hu
  rw [List.getElem?_map, hsp] at hu'
  cases hu'
  rw [Nat.zero_add, World.var?_cell n6 hv6 j]
  simpa using c1
 ·obtain ⟨hl, m, hp⟩ := trod_arr (ds := formsL.map formD) Tryz.underlying152 (by kernel_rfl : Tryz.prog.cellsOf 121 = 8) (by kernel_rfl) hd9
  intro j u hu
  have hj : j < 160 := (List.getElem?_eq_some_iff.1 hu).1
  obtain ⟨p, hsp⟩ : ∃ p, formsL[j / 8]? = some p := ⟨_, List.getElem?_eq_getElem (by show j / 8 < 20; omega)⟩
  obtain ⟨d, q, hd, ht⟩ := hp (j / 8) (by omega)
  rw [List.getElem?_map, hsp] at hd
  cases hd
  have e1 := form_piece ht
  obtain ⟨v, hr⟩ : ∃ v, (Bj p)[j % 8]? = some v := ⟨_, List.getElem?_eq_getElem (by show j % 8 < 8; omega)⟩
  have c1 := cell_of_piece e1 hr
  have c2 := formC_at formsL (j / 8) (j % 8) p v hsp hr
  rw [show j / 8 * 8 + j % 8 = j by omega] at c1 c2
  have hu' : (formsL.flatMap Bj)[j]? = some u := hu
  rw [c2] at hu'
  rw [Nat.zero_add, World.var?_cell n9 hv9 j]
  rw [← hu', ← c1]
  simp
set_option maxRecDepth 100000 in
theorem law_liftedL {os : Os} (started : os.Started) {k : FuncId} {fn : Func} {s : ChangeSpec} {conds : List PathCond} {fresh : Bool} {H : Type} {enc : TypeId × Value → H} (F : Stop.Interp) (noInit : Tryz.prog.inits.idxOf? k = none) (hfn : Tryz.prog.funcs[k]? = some fn)
  (witness : ∃ (w : World) (tape : Tape) (i : Input), w.os = os ∧ (w.forCall tape i).Shaped Tryz.prog ∧ i.vars = [] ∧ Input.okWide Tryz.prog (w.forCall tape i) .any w.heap.size k i ∧
   (OpenSpec.ofChange s).preRow enc Tryz.prog fn conds false laidL (w.forCall tape i).memory i.args ∧ ({} : Assume).holds Tryz.prog (lone (Frame.enter Tryz.prog k i.args .normal) [] (w.forCall tape i)))
  (hs : s.vars = []) (hts : (fn.params.toList.all fun t => decide (t < Tryz.prog.types.size)) = true) (hrt : fn.resultTypes = #[4])
  (hspec : ∀ ds : List (DataW H), ds.length = fn.params.toList.length → s.fn H ds = { results := [.lit (.bool true)], args := ds })
  (law : ∀ (W : World) (base : Nat) (args : List Value) (ds : List (DataW H)) (p : List MemPlace), (∀ (j : Nat) t v, fn.params.toList[j]? = some t → args[j]? = some v → Value.okWide Tryz.prog W .any base t v) →
   DataW.TrodAll enc Tryz.prog W 0 (fun _ => true) true fn.params.toList args ds p → (KY W ∧ GF W) ∧ 3 ≤ W.heap.size → Fn Tryz.prog k args W fun v w' => v = .bool true ∧ Ext W w') :
  ReturnsInHanded {} Tryz.checked os k .any ((OpenSpec.ofChange s).preRow enc Tryz.prog fn conds false laidL) (((OpenSpec.ofChange s).at F).post enc Tryz.prog fn false fresh false false) := by
 refine returnsInHanded_of_row (C := Tryz.checked) (s := OpenSpec.ofChange s) own started noInit hfn witness ?_
 intro W base args ds gs before hval hW _ _ _ hL hSh _
 have hN : 3 ≤ W.heap.size := by
  have hz : (((begin Tryz.prog (fun _ _ => 0) default).world.heap[2]?).bind Obj.row?).isSome = true := by kernel_rfl
  obtain ⟨⟨z, t⟩, hz⟩ := Option.isSome_iff_exists.1 hz
  obtain ⟨cs, hc, _⟩ := hSh.1 2 z t (of_decide_eq_true (by kernel_rfl)) hz
  have := (Array.getElem?_eq_some_iff.1 hc).1
  omega
 have hW' : DataW.Whole enc Tryz.prog fn.params.toList s.vars false W args.toList ds gs before := hW
 obtain ⟨p, q, hA, hV, rfl, hf, hn⟩ := hW
 have hg : gs = [] := by
  have hV' : DataW.TrodVars enc Tryz.prog W (fun _ => true) s.vars gs q := hV
  rw [hs] at hV'
  cases gs with
  | nil => rfl
  | cons _ _ => exact hV'.elim
 subst hg
 have hlen : ∀ {ts : List TypeId} {vs : List Value} {ds : List (DataW H)} {ps : List MemPlace}, DataW.TrodAll enc Tryz.prog W 0 (fun _ => true) true ts vs ds ps → ds.length = ts.length := by
  intro ts
  induction ts with
  | nil => intro vs ds ps h; obtain ⟨rfl, rfl, rfl⟩ := trodAll_nil h; rfl
  | cons t ts ih => intro vs ds ps h; obtain ⟨v, vs1, d, ds1, a, b, rfl, rfl, rfl, h1, h2⟩ := trodAll_cons h; simp [ih h2]
 refine Calls.mono (law W base args.toList ds p (fun j t v h1 h2 => hval j t v (Array.getElem?_toList.symm.trans h1) (Array.getElem?_toList.symm.trans h2)) hA ⟨gt_of_laid hL, hN⟩) fun e W' he => ?_
 cases e with
 | returned v =>
  refine ⟨v, rfl, post_of_ext kids full (fun t ht => of_decide_eq_true (List.all_eq_true.1 hts t ht)) hs hW' ?_ hrt Tryz.underlying4 he.1 he.2⟩
  rw [List.append_nil]; exact hspec ds (hlen hA)
 | panicked ch => exact he.elim
 | outgrown => exact he.elim
def layC (cs : List Value) : Obj → Obj
 | .cells _ t frozen => .cells cs.toArray t frozen
 | o => o
noncomputable def laidWorld (os : Os) : World :=
 let w := World.holding Tryz.prog os ⟨#[], #[], []⟩
 { w with heap := (w.heap.modify 0 (layC formC)).modify 1 (layC keyC) }
end Go.Proofs.YtkhhjdjmhbdjfaaGreatDoor
namespace Go.Proofs.YtkhhjdjmhbdjfaaGreatDoor
open Go.ChangeShapes Go.WideShapes Go.ChangeAt Go.RowKit
set_option linter.unusedVariables false
set_option maxRecDepth 100000 in
theorem TopAged_open {H : Type} {enc : TypeId × Value → H} (W : World) (base : Nat) (args : List Value) (ds : List (DataW H)) (p : List MemPlace) (hval : ∀ (j : Nat) t v, Tryz.f3.params.toList[j]? = some t → args[j]? = some v → Value.okWide Tryz.prog W .any base t v)
  (hA : DataW.TrodAll enc Tryz.prog W 0 (fun _ => true) true Tryz.f3.params.toList args ds p) (hG : (KY W ∧ GF W) ∧ 3 ≤ W.heap.size) : Fn Tryz.prog 3 args W fun v w' => v = .bool true ∧ Ext W w' := by
 rw [Tryz.params3] at hA hval
 obtain ⟨v0, _, d0, _, p0, q0, rfl, rfl, rfl, h0, r0⟩ := trodAll_cons hA
 obtain ⟨v1, _, d1, _, p1, q1, rfl, rfl, rfl, h1, r1⟩ := trodAll_cons r0
 obtain ⟨v2, _, d2, _, p2, q2, rfl, rfl, rfl, h2, r2⟩ := trodAll_cons r1
 obtain ⟨rfl, rfl, rfl⟩ := trodAll_nil r2
 obtain ⟨S, hS⟩ := arg_sgns (hval 0 _ v0 rfl rfl) h0
 obtain ⟨f, hf⟩ := arg_fml (hval 1 _ v1 rfl rfl) h1
 obtain ⟨la, lc, xs, rfl, hxs⟩ := arg_ints (hval 2 _ v2 rfl rfl) h2
 obtain ⟨sa, sc, rfl, _⟩ := hS.len
 exact topAged_ok W sa sc S v1 f la lc xs hS hf hxs hG.1.2 hG.1.1 hG.2
theorem TopAged_laidMet (os : Os) : laidMet Tryz.prog laidL ((laidWorld os).forCall (fun _ _ => 0) ⟨#[], #[.slice none 0 0, .agg #[.int .i64 0, An [], .int .i64 0, .int .i64 0, .slice none 0 0], .slice none 0 0], []⟩).memory := laidMet_of_run' 8 (by kernel_rfl) (by kernel_rfl)
theorem TopAged_reads (os : Os) {H : Type} (enc : TypeId × Value → H) : ∃ places, DataW.whole enc Tryz.prog ((laidWorld os).forCall (fun _ _ => 0) ⟨#[], #[.slice none 0 0, .agg #[.int .i64 0, An [], .int .i64 0, .int .i64 0, .slice none 0 0], .slice none 0 0], []⟩).memory Tryz.f3.params.toList Rows.topAgedSpec.vars false #[.slice none 0 0, .agg #[.int .i64 0, An [], .int .i64 0, .int .i64 0, .slice none 0 0], .slice none 0 0].toList 8 = some ([.nil, .agg [.lit (.int .i64 0), .lit (.string []), .lit (.int .i64 0), .lit (.int .i64 0), .nil], .nil], [], places) := ⟨[], by kernel_rfl⟩
set_option maxRecDepth 100000 in
theorem TopAged_lifted (os : Os) (started : os.Started) (H : Type) (enc : TypeId × Value → H) (F : Stop.Interp) :
  ReturnsInHanded {} Tryz.checked os 3 .any ((OpenSpec.ofChange Rows.topAgedSpec).preRow enc Tryz.prog Tryz.f3 Rows.topAgedRow.domain false Rows.topAgedRow.laid) (((OpenSpec.ofChange Rows.topAgedSpec).at F).post enc Tryz.prog Tryz.f3 false true false false) := by
 obtain ⟨places, hx⟩ := TopAged_reads os enc
 exact law_liftedL started F (by kernel_rfl) Tryz.func3
  (witness_row_atRef (enc := enc) (C := Tryz.checked) false (laidWorld os) #[.slice none 0 0, .agg #[.int .i64 0, An [], .int .i64 0, .int .i64 0, .slice none 0 0], .slice none 0 0] rfl (by kernel_rfl) (by kernel_rfl) (by kernel_rfl)
   (OpenSpec.preRow_of_cond 8 hx (by kernel_rfl) (fun k hk => by cases hk) (by kernel_rfl) (TopAged_laidMet os))) rfl (by kernel_rfl) (by kernel_rfl)
  (fun ds h => by
   match ds, h with
   | [d1, d2, d3], _ => rfl) TopAged_open
theorem TopAged_said : Rows.TopAgedSaid :=
 OpenClaim.holds_of_cond 3 Tryz.f3 rfl rfl rfl rfl rfl rfl rfl ⟨rfl, rfl, rfl, rfl, rfl⟩ rfl rfl rfl rfl rfl (by kernel_rfl) Tryz.func3 (by kernel_rfl)
  (of_decide_eq_true (by kernel_rfl)) (by unfold Func.isWrapper; first | (rw [if_pos (by decide +kernel)]; kernel_rfl) | (rw [if_neg (by decide +kernel)]; exact ⟨rfl, rfl⟩))
  (fun os started H enc _ F => by rw [OpenClaim.pre_eq_preRow]; exact TopAged_lifted os started H enc F)
theorem TopAged_plain (f : FuncId) (fn : Func) (hf : Tryz.pinned.checked.prog.funcNamed "foresight/foresighttop.TopAged" = some f) (hfn : Tryz.pinned.checked.prog.funcs[f]? = some fn) :
  false = Tryz.pinned.checked.prog.looks [] ∧ ∀ (j : Nat) t, fn.params[j]? = some t → Tryz.pinned.checked.prog.wantsStandIn t = false := by
 obtain rfl : f = 3 := Option.some.inj ((show Tryz.prog.funcNamed "foresight/foresighttop.TopAged" = some 3 by kernel_rfl).symm.trans hf) |>.symm
 obtain rfl : fn = Tryz.f3 := (Option.some.inj (Tryz.func3.symm.trans hfn)).symm
 refine ⟨by kernel_rfl, fun j t ht => ?_⟩
 have hall : (Tryz.f3.params.toList.all fun t => !Tryz.prog.wantsStandIn t) = true := by kernel_rfl
 have := List.all_eq_true.1 hall t (by simpa using Array.mem_of_getElem? ht)
 exact Bool.not_eq_true' _ |>.mp this
theorem TopAged_proved : Rows.TopAgedCardSaid :=
 Claim7.holds_tied_plain_at .later [] _ _ _ _ TopAged_said (fun _ h => by cases h) (by kernel_rfl) (fun _ h => by cases h) topAged_row_tie rfl ⟨rfl, rfl⟩ (by kernel_rfl) rfl TopAged_plain (by kernel_rfl)
end Go.Proofs.YtkhhjdjmhbdjfaaGreatDoor
