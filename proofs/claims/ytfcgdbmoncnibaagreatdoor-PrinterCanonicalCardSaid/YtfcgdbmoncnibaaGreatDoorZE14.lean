/- The reference: names. The reference printer: numbers, operators, signs. The reference printer: what can be printed. The reference printer: the text of a formula. The reference printer: requirements, edits. The reference printer: specifications and edits held printable. The reference printer: the text of a specification. The reference: sizes. The reference printer: edits. The printer's laws, plain: texts are parsed back; equal texts; what is parsed can be printed. The truth of formulas on infinite words, plain; words that repeat themselves. Residuals, plain: what is left of a formula after a letter is true of the rest of the word. The canonical form, plain: the order of formulas, lists without repetitions, truth. The order of formulas: two nodes compared, walked. The order of formulas: lists of formulas in memory; the stack of Compare. The order of formulas: the stack of Compare. The order of formulas: Compare walked. The lexer's laws: gaps. The reference lexer: kinds of bytes, symbols, the next token. Conditions: none. -/
import Derived.Test.YtfcgdbmoncnibaaGreatDoorZE13
import Derived.Test.YtfcgdbmoncnibaaGreatDoorShc

namespace Go.Proofs.YtfcgdbmoncnibaaGreatDoor
open Go.RowKit
set_option linter.unusedVariables false
variable {mk : Prop} [MK mk]
end Go.Proofs.YtfcgdbmoncnibaaGreatDoor
namespace Go.Proofs.YtfcgdbmoncnibaaGreatDoor
open Go.RowKit
set_option linter.unusedVariables false
end Go.Proofs.YtfcgdbmoncnibaaGreatDoor
namespace Go.Proofs.YtfcgdbmoncnibaaGreatDoor
open Go.RowKit
set_option linter.unusedVariables false
end Go.Proofs.YtfcgdbmoncnibaaGreatDoor
namespace Go.Proofs.YtfcgdbmoncnibaaGreatDoor
open Go.RowKit
set_option linter.unusedVariables false
end Go.Proofs.YtfcgdbmoncnibaaGreatDoor
namespace Go.Proofs.YtfcgdbmoncnibaaGreatDoor
open Go.RowKit
set_option linter.unusedVariables false
end Go.Proofs.YtfcgdbmoncnibaaGreatDoor
namespace Go.Proofs.YtfcgdbmoncnibaaGreatDoor
open Go.RowKit
set_option linter.unusedVariables false
end Go.Proofs.YtfcgdbmoncnibaaGreatDoor
namespace Go.Proofs.YtfcgdbmoncnibaaGreatDoor
open Go.RowKit
set_option linter.unusedVariables false
end Go.Proofs.YtfcgdbmoncnibaaGreatDoor
namespace Go.Proofs.YtfcgdbmoncnibaaGreatDoor
open Go.RowKit
set_option linter.unusedVariables false
end Go.Proofs.YtfcgdbmoncnibaaGreatDoor
namespace Go.Proofs.YtfcgdbmoncnibaaGreatDoor
open Go.RowKit
set_option linter.unusedVariables false
theorem blankB_eq (r : Rqm) : blankB r = true ↔ r.part = [] ∧ r.kind = 0 ∧ r.formula = DD := by
 obtain ⟨p, nm, k, f⟩ := r
 cases f with
 | mk op n v b args =>
  simp only [blankB, DD, Fml.op, Fml.name, Fml.val, Fml.bound, Fml.args, Bool.and_eq_true, List.isEmpty_iff, decide_eq_true_eq]
  constructor
  ·rintro ⟨⟨⟨⟨⟨⟨h1, h2⟩, h3⟩, h4⟩, h5⟩, h6⟩, h7⟩
   refine ⟨h1, h2, ?_⟩
   rw [of_decide_eq_true h3, h4, of_decide_eq_true h5, of_decide_eq_true h6, h7]
  ·rintro ⟨h1, h2, h3⟩
   cases h3
   exact ⟨⟨⟨⟨⟨⟨h1, h2⟩, rfl⟩, rfl⟩, rfl⟩, rfl⟩, rfl⟩
end Go.Proofs.YtfcgdbmoncnibaaGreatDoor
namespace Go.Proofs.YtfcgdbmoncnibaaGreatDoor
set_option linter.unusedVariables false
theorem whole_run {nt : NT} {l : List Tok} {v : nt.T} (h : RunN nt l (.ok (v, []))) : Run (whole nt) l (.ok (v, [])) := Run.call h (Run.look (Run.ret _ _))
theorem whole_back {nt : NT} {l r : List Tok} {v : nt.T} (h : Run (whole nt) l (.ok (v, r))) : RunN nt l (.ok (v, [])) := by
 rcases Run.call_inv h with ⟨u, m, h1, h2⟩ | ⟨e, _, h2⟩
 ·cases m with
  | nil => cases h2.det (show Run (.look _) [] (.ok (u, [])) from Run.look (Run.ret _ _)); exact h1
  | cons x m => cases h2.det (show Run (.look _) (x :: m) (.error (x :: m)) from Run.look (Run.fail _))
 ·cases h2
theorem res_run {nt : NT} {t : List UInt8} {v : nt.T} (h : PRes nt t (.ok v)) : ∃ A, Ct t = .ok A ∧ RunN nt A (.ok (v, [])) := by
 unfold PRes at h
 cases hm : Ct t with
 | error e => rw [hm] at h; cases h
 | ok ts =>
  rw [hm] at h
  obtain ⟨a, h1, h2⟩ := h
  cases a with
  | ok y =>
   obtain ⟨u, r⟩ := y
   cases h2
   exact ⟨ts, rfl, whole_back h1⟩
  | error l => cases l <;> cases h2
theorem bare_run {nt : NT} {A B : List Tok} {v : nt.T} (h : RunN nt A (.ok (v, []))) (hb : B.map bare = A.map bare) : RunN nt B (.ok (v, [])) := by
 obtain ⟨r, h1, h2⟩ := Run.bare hb.symm h
 cases r with
 | error e => exact h2.elim
 | ok z =>
  obtain ⟨u, l⟩ := z
  obtain ⟨e1, e2⟩ := h2
  have hl : l = [] := List.map_eq_nil_iff.1 e2.symm
  have hv : v = u := e1
  subst hl; subst hv
  exact h1
theorem read_res {nt : NT} {s : List UInt8} {bs : List BT} {v : nt.T} (h : ReadL s bs) (hr : RunN nt (BF bs) (.ok (v, []))) : (∃ p, Ct s = .error (2, p)) ∨ PRes nt s (.ok v) := by
 rcases h.lex with ⟨us, e, h1⟩ | h1
 ·refine .inr ?_
  unfold PRes; rw [h1]
  exact ⟨.ok (v, []), whole_run (bare_run hr (by rw [e, toks_bare])), rfl⟩
 ·exact .inl h1
theorem fml_read {f : Fml} (hok : okF f = true) : ReadL (prF 0 f) (tkF 0 f) := by
 have := (readsF _ f (Nat.le_refl _) hok 0 [] [] .nil ⟨rfl, by simp⟩).1
 rwa [List.append_nil, List.append_nil] at this
theorem fml_back {f : Fml} (hok : okF f = true) : (∃ p, Ct (prF 0 f) = .error (2, p)) ∨ PRes .formula (prF 0 f) (.ok f) := read_res (nt := .formula) (fml_read hok) (tk_run hok)
theorem fml_ne {f : Fml} (hok : okF f = true) : prF 0 f ≠ [] := by
 intro e
 have h := fml_read hok
 rw [e] at h
 obtain ⟨x, t, ht, _⟩ := tk_head _ f 0 (Nat.le_refl _) hok
 rw [ht] at h
 have := h.det ReadL.nil rfl
 cases this
theorem spc_read {s : Spc} (hok : DE s = true) : ReadL (spcT s) (spcK s) := by
 have := spc_reads hok .nil
 rwa [List.append_nil, List.append_nil] at this
theorem spc_back {s : Spc} (hok : DE s = true) : (∃ p, Ct (spcT s) = .error (2, p)) ∨ PRes .spec (spcT s) (.ok s) := read_res (nt := .spec) (spc_read hok) (spc_run hok)
theorem sgnT_ne (x : Sgn) : sgnT x ≠ [] := by
 intro e
 have := congrArg List.length e
 simp only [sgnT, List.length_append, List.length_cons, List.length_nil] at this
 omega
theorem mT_ne (r : Rqm) : mT r ≠ [] := by simp [mT]
theorem spc_ne {s : Spc} (h : spcT s = []) : s.sigs = [] ∧ s.reqs = [] := by
 obtain ⟨l, m⟩ := s
 unfold spcT at h
 obtain ⟨h1, h2⟩ := List.append_eq_nil_iff.1 h
 constructor
 ·cases l with
  | nil => rfl
  | cons x l =>
   rw [List.flatMap_cons] at h1
   exact absurd (List.append_eq_nil_iff.1 h1).1 (sgnT_ne x)
 ·cases m with
  | nil => rfl
  | cons r m =>
   rw [rqsT_eq] at h2
   simp only [itR] at h2
   obtain ⟨_, h3⟩ := List.append_eq_nil_iff.1 h2
   exact absurd (List.append_eq_nil_iff.1 h3).1 (mT_ne r)
theorem edt_zero {e : Edt} (h : okE e = true) (h2 : e.kind = 2) : e.req = ⟨[], e.req.name, 0, DD⟩ := by
 obtain ⟨k, r⟩ := e
 unfold okE at h
 rw [if_pos h2, Bool.and_eq_true] at h
 obtain ⟨h3, h4, h5⟩ := (blankB_eq _).1 h.1
 obtain ⟨p, nm, k', f⟩ := r
 simp only at h3 h4 h5
 simp [h3, h4, h5]
theorem edt_back {e : Edt} (hok : okE e = true) : (∃ p, Ct (edtT e) = .error (2, p)) ∨ PRes .edit (edtT e) (.ok e) := read_res (nt := .edit) (edt_reads hok) (edt_run hok (edt_zero hok))
theorem edt_ne (e : Edt) : edtT e ≠ [] := by
 unfold edtT
 split
 ·simp
 ·split <;> simp
theorem nums_of {ts : List Tok} (h : ∀ x ∈ ts, TokWf x) : NumsOk ts := fun x hx hk => by
 obtain ⟨h1, h4, hd⟩ := h x hx hk
 have h2 := numOf_le _ x.text rfl hd
 have h3 := topN_le h4
 omega
theorem parsed_phi {nt : NT} {t : List UInt8} {v : nt.T} (h : PRes nt t (.ok v)) : ∃ A, Ct t = .ok A ∧ Phi nt v A [] ∧ Sz nt v ≤ A.length ∧ A.length ≤ 2000 := by
 obtain ⟨A, hm, hr⟩ := res_run h
 obtain ⟨_, h2, h3⟩ := lexM_toks hm
 have h4 := run_sz hr
 rw [List.length_nil] at h4
 exact ⟨A, hm, run_phi (nums_of h3) h2 hr, by omega, h2⟩
theorem fml_parsed {t : List UInt8} {f : Fml} (h : PRes .formula t (.ok f)) : okF f = true ∧ szF f ≤ 2000 := by
 obtain ⟨A, _, h1, h2, h3⟩ := parsed_phi h
 have h2' : szF f ≤ A.length := h2
 exact ⟨h1.1, by omega⟩
theorem okR_of {r : Rqm} (h : reqP r) : okR r = true := by
 obtain ⟨h1, h2, h3⟩ := h
 simp only [okR, Bool.and_eq_true, Bool.or_eq_true, decide_eq_true_eq]
 exact ⟨⟨h2, h1⟩, h3⟩
theorem okRq_of {r : Rqm} (h : reqQ r) : okRq r = true := by
 simp only [okRq, Bool.and_eq_true]
 exact ⟨h.1, okR_of h.2⟩
theorem spc_parsed {t : List UInt8} {s : Spc} (h : PRes .spec t (.ok s)) : DE s = true ∧ szS s ≤ 2000 := by
 obtain ⟨A, _, h1, h2, h3⟩ := parsed_phi h
 have h2' : szS s ≤ A.length := h2
 refine ⟨?_, by omega⟩
 simp only [DE, Bool.and_eq_true, List.all_eq_true]
 refine ⟨fun x hx => ?_, fun r hr => okRq_of (h1.2 r hr)⟩
 obtain ⟨a, b, c⟩ := h1.1 x hx
 simp only [okS, numB, Bool.and_eq_true, decide_eq_true_eq]
 exact ⟨a, b, c⟩
theorem edt_parsed {t : List UInt8} {e : Edt} (h : PRes .edit t (.ok e)) : okE e = true ∧ szF e.req.formula ≤ 2000 := by
 obtain ⟨A, _, h1, h2, h3⟩ := parsed_phi h
 have h2' : szF e.req.formula ≤ A.length := h2
 refine ⟨?_, by omega⟩
 unfold okE
 rcases h1 with ⟨k, p, q, f, n⟩ | ⟨k, p, r⟩
 ·rw [if_pos k, Bool.and_eq_true]
  exact ⟨(blankB_eq _).2 ⟨p, q, f⟩, n⟩
 ·rw [if_neg (by omega)]
  simp only [Bool.and_eq_true, Bool.or_eq_true, decide_eq_true_eq]
  exact ⟨⟨k, p⟩, okR_of r⟩
end Go.Proofs.YtfcgdbmoncnibaaGreatDoor
namespace Go.Proofs.YtfcgdbmoncnibaaGreatDoor
set_option linter.unusedVariables false
variable {mk : Prop} [MK mk]
end Go.Proofs.YtfcgdbmoncnibaaGreatDoor
namespace Go.Proofs.YtfcgdbmoncnibaaGreatDoor
set_option linter.unusedVariables false
variable {mk : Prop} [MK mk]
end Go.Proofs.YtfcgdbmoncnibaaGreatDoor
namespace Go.Proofs.YtfcgdbmoncnibaaGreatDoor
set_option linter.unusedVariables false
variable {mk : Prop} [MK mk]
def cmpI (a b : Int) : Int := if a < b then -1 else if b < a then 1 else 0
def cmpS : List UInt8 → List UInt8 → Int
 | [], [] => 0
 | [], _ :: _ => -1
 | _ :: _, [] => 1
 | a :: s, b :: t => if a.toNat < b.toNat then -1 else if b.toNat < a.toNat then 1 else cmpS s t
def Cc (a b : Int) : Int := if a = 0 then b else a
mutual
def cmpF : Fml → Fml → Int
 | .mk o n v b l, .mk o' n' v' b' l' => Cc (cmpI o o') (Cc (cmpS n n') (Cc (cmpI v v') (Cc (cmpI b b') (Cc (cmpI l.length l'.length) (cmpL l l')))))
def cmpL : List Fml → List Fml → Int
 | a :: l, c :: m => Cc (cmpF a c) (cmpL l m)
 | [], _ => 0
 | _ :: _, [] => 0
end
theorem thenI_zero {a b : Int} : Cc a b = 0 ↔ a = 0 ∧ b = 0 := by
 unfold Cc; split <;> simp_all
theorem cmpI_zero {a b : Int} : cmpI a b = 0 ↔ a = b := by unfold cmpI; split <;> (try split) <;> omega
theorem cmpS_zero : ∀ {s t : List UInt8}, cmpS s t = 0 ↔ s = t
 | [], [] => by simp [cmpS]
 | [], _ :: _ => by simp [cmpS]
 | _ :: _, [] => by simp [cmpS]
 | a :: s, b :: t => by
  rw [cmpS]
  split
  ·rename_i h
   refine ⟨fun h => by omega, fun h2 => ?_⟩
   cases h2; omega
  split
  ·rename_i h
   refine ⟨fun h => by omega, fun h2 => ?_⟩
   cases h2; omega
  ·rename_i h1 h2
   have : a = b := UInt8.toNat_inj.1 (by omega)
   rw [cmpS_zero, this]; simp
mutual
theorem cmpF_zero : ∀ (f g : Fml), cmpF f g = 0 ↔ f = g
 | .mk o n v b l, .mk o' n' v' b' l' => by
  rw [cmpF]
  simp only [thenI_zero, cmpI_zero, cmpS_zero, Fml.mk.injEq]
  constructor
  ·rintro ⟨rfl, rfl, rfl, rfl, h, h'⟩
   exact ⟨rfl, rfl, rfl, rfl, (cmpL_zero l l' (by omega)).1 h'⟩
  ·rintro ⟨rfl, rfl, rfl, rfl, rfl⟩
   exact ⟨rfl, rfl, rfl, rfl, rfl, (cmpL_zero l l rfl).2 rfl⟩
theorem cmpL_zero : ∀ (l m : List Fml), l.length = m.length → (cmpL l m = 0 ↔ l = m)
 | a :: l, c :: m, h => by
  rw [cmpL, thenI_zero, cmpF_zero a c, cmpL_zero l m (by simpa using h)]; simp
 | [], [], _ => by simp [cmpL]
 | [], _ :: _, h => by simp at h
 | _ :: _, [], h => by simp at h
end
end Go.Proofs.YtfcgdbmoncnibaaGreatDoor
namespace Go.Proofs.YtfcgdbmoncnibaaGreatDoor
open Go.RowKit
set_option linter.unusedVariables false
variable {mk : Prop} [MK mk]
theorem lib_cmpI (a b : Int) : Lib.compareInt a b = cmpI a b := by
 unfold Lib.compareInt cmpI
 rfl
theorem lib_cmpS : ∀ s t : List UInt8, Lib.compareBytes s t = cmpS s t
 | [], [] => rfl
 | [], _ :: _ => rfl
 | _ :: _, [] => rfl
 | a :: s, b :: t => by
  rw [Lib.compareBytes, cmpS, lib_cmpS s t]
  rfl
theorem cmpInt_ok (a b : Int) (w : World) : Fn Tryz.prog 101 [.int .i64 a, .int .i64 b] w fun v w' => v = .int .i64 (cmpI a b) ∧ w' = w := by
 refine Calls.mono (Tryz.cmp_Compare_int a b w) ?_
 rintro e w' ⟨rfl, rfl⟩
 exact ⟨by rw [lib_cmpI], rfl⟩
theorem cmpStr_ok (a b : List UInt8) (w : World) : Fn Tryz.prog 102 [AI a, AI b] w fun v w' => v = .int .i64 (cmpS a b) ∧ w' = w := by
 refine Calls.mono (Tryz.strings_Compare ⟨a.toArray⟩ ⟨b.toArray⟩ w) ?_
 rintro e w' ⟨rfl, rfl⟩
 exact ⟨by rw [lib_cmpS], rfl⟩
def cmpN (f g : Fml) : Int := Cc (cmpI f.op g.op) (Cc (cmpS f.name g.name) (Cc (cmpI f.val g.val) (Cc (cmpI f.bound g.bound) (cmpI f.args.length g.args.length))))
theorem thenI_ne {a b : Int} (h : a ≠ 0) : Cc a b = a := if_neg h
theorem CX {a b : Int} (h : a = 0) : Cc a b = b := if_pos h
theorem cmpF_split (f g : Fml) : cmpF f g = Cc (cmpN f g) (cmpL f.args g.args) := by
 obtain ⟨o, n, v, b, l⟩ := f
 obtain ⟨o', n', v', b', l'⟩ := g
 rw [cmpF]
 simp only [cmpN, Fml.op, Fml.name, Fml.val, Fml.bound, Fml.args]
 have h : ∀ a b c : Int, Cc (Cc a b) c = Cc a (Cc b c) := by
  intro a b c
  unfold Cc
  by_cases h : a = 0
  ·rw [if_pos h, if_pos h]
  ·rw [if_neg h, if_neg h, if_neg h]
 simp only [h]
set_option maxHeartbeats 1600000 in
theorem cmpNodes_ok (w : World) (b o b' o' : Nat) (f g : Fml) (hf : PF BS w b o f) (hg : PF BS w b' o' g) :
  Fn Tryz.prog 61 [.pointer (some ⟨b, o, none⟩), .pointer (some ⟨b', o', none⟩)] w fun v w' => v = .int .i64 (cmpN f g) ∧ Ext w w' := by
 obtain ⟨_, a, c, L, hc, _, _⟩ := hf.form
 obtain ⟨_, a', c', L', hc', _, _⟩ := hg.form
 have x0 : w.cell? ⟨b, o + 0, none⟩ = some (.int .i64 f.op) := hc 0 _ rfl
 have x1 : w.cell? ⟨b, o + 1, none⟩ = some (AI f.name) := hc 1 _ rfl
 have x2 : w.cell? ⟨b, o + 2, none⟩ = some (.int .i64 f.val) := hc 2 _ rfl
 have x3 : w.cell? ⟨b, o + 3, none⟩ = some (.int .i64 f.bound) := hc 3 _ rfl
 have x4 : w.cell? ⟨b, o + 4, none⟩ = some (.slice a f.args.length c) := hc 4 _ rfl
 have y0 : w.cell? ⟨b', o' + 0, none⟩ = some (.int .i64 g.op) := hc' 0 _ rfl
 have y1 : w.cell? ⟨b', o' + 1, none⟩ = some (AI g.name) := hc' 1 _ rfl
 have y2 : w.cell? ⟨b', o' + 2, none⟩ = some (.int .i64 g.val) := hc' 2 _ rfl
 have y3 : w.cell? ⟨b', o' + 3, none⟩ = some (.int .i64 g.bound) := hc' 3 _ rfl
 have y4 : w.cell? ⟨b', o' + 4, none⟩ = some (.slice a' g.args.length c') := hc' 4 _ rfl
 clear hc hc'
 have kw : Ext w w := Ext.refl w
 have qx0 : ∀ W, Ext w W → W.cell? ⟨b, o + 0, none⟩ = some (.int .i64 f.op) := fun W e => e.cell x0 (by simp)
 have qx1 : ∀ W, Ext w W → W.cell? ⟨b, o + 1, none⟩ = some (AI f.name) := fun W e => e.cell x1 (by simp)
 have qx2 : ∀ W, Ext w W → W.cell? ⟨b, o + 2, none⟩ = some (.int .i64 f.val) := fun W e => e.cell x2 (by simp)
 have qx3 : ∀ W, Ext w W → W.cell? ⟨b, o + 3, none⟩ = some (.int .i64 f.bound) := fun W e => e.cell x3 (by simp)
 have qx4 : ∀ W, Ext w W → W.cell? ⟨b, o + 4, none⟩ = some (.slice a f.args.length c) := fun W e => e.cell x4 (by simp)
 have qy0 : ∀ W, Ext w W → W.cell? ⟨b', o' + 0, none⟩ = some (.int .i64 g.op) := fun W e => e.cell y0 (by simp)
 have qy1 : ∀ W, Ext w W → W.cell? ⟨b', o' + 1, none⟩ = some (AI g.name) := fun W e => e.cell y1 (by simp)
 have qy2 : ∀ W, Ext w W → W.cell? ⟨b', o' + 2, none⟩ = some (.int .i64 g.val) := fun W e => e.cell y2 (by simp)
 have qy3 : ∀ W, Ext w W → W.cell? ⟨b', o' + 3, none⟩ = some (.int .i64 g.bound) := fun W e => e.cell y3 (by simp)
 have qy4 : ∀ W, Ext w W → W.cell? ⟨b', o' + 4, none⟩ = some (.slice a' g.args.length c') := fun W e => e.cell y4 (by simp)
 clear x0 x1 x2 x3 x4 y0 y1 y2 y3 y4
 refine Af Tryz.func61 rfl Tryz.ntmps61 (Nat.le_of_ble_eq_true rfl) (by kernel_rfl) ?_
 repeat refine nx rfl ?_
 refine AA (AC (AH rfl ?_))
 repeat refine nx rfl ?_
 by_cases h0 : f.op = g.op
 rotate_left
 ·refine A5 (.read 0 (.read 1 (.read 2 (.read 3 (.read 4 (.read 5 (.read 6 (.read 7 (.read 8 (.read 9 .done)))))))))) BC (by kernel_rfl) (fun wd kd ed => ⟨Ext w, ?_, ?_⟩)
  ·exact kw.trans kd
  replace kw := kw.trans kd
  refine D_R rfl rfl (fun W hW => AK rfl Z3) (D_R rfl rfl (fun W hW => AF rfl Z3) (D_R rfl rfl (fun W hW => AB rfl Z3) (D_R rfl rfl (fun W hW => AG rfl (qx0 W hW) Z3) (D_R rfl rfl (fun W hW => AK rfl Z3) (D_R rfl rfl (fun W hW => AF rfl Z3) (D_R rfl rfl (fun W hW => AB rfl Z3) (D_R rfl rfl (fun W hW => AG rfl (qy0 W hW) Z3) (D_neqT rfl rfl rfl rfl (by omega) (D_R rfl rfl (fun W hW => AC (AD rfl Z3)) (Ax ?_))))))))))
  repeat refine nx rfl ?_
  have n0 : cmpI f.op g.op ≠ 0 := fun e => h0 (cmpI_zero.1 e)
  refine A5 (.read 0 (.read 1 (.read 2 (.read 3 (.read 4 (.read 5 (.read 6 (.read 7 (.alt 8 (.read 9 .done) .stop))))))))) BC (by kernel_rfl) (fun wd kd ed => ⟨Ext w, ?_, ?_⟩)
  ·exact kw.trans kd
  replace kw := kw.trans kd
  refine D_R rfl rfl (fun W hW => AK rfl Z3) (D_R rfl rfl (fun W hW => AF rfl Z3) (D_R rfl rfl (fun W hW => AB rfl Z3) (D_R rfl rfl (fun W hW => AG rfl (qx0 W hW) Z3) (D_R rfl rfl (fun W hW => AK rfl Z3) (D_R rfl rfl (fun W hW => AF rfl Z3) (D_R rfl rfl (fun W hW => AB rfl Z3) (D_R rfl rfl (fun W hW => AG rfl (qy0 W hW) Z3) ?_)))))))
  refine D_E rfl ?_
  refine AO (cmpInt_ok f.op g.op _) rfl ?_
  rintro _ _ ⟨rfl, rfl⟩
  refine AJ ⟨Ext w, fun _ e => e, kw, ?_⟩
  refine D_R rfl rfl (fun W hW => AC (AH rfl Z3)) (Ax ?_)
  repeat refine nx rfl ?_
  exact AQ rfl ⟨congrArg (Value.int .i64) (by simp only [cmpN]; rw [thenI_ne n0]), kw⟩
 have z0 := cmpI_zero.2 h0
 refine A5 (.read 0 (.read 1 (.read 2 (.read 3 (.read 4 (.read 5 (.read 6 (.read 7 (.read 8 (.read 9 .done)))))))))) BC (by kernel_rfl) (fun wd kd ed => ⟨Ext w, ?_, ?_⟩)
 ·exact kw.trans kd
 replace kw := kw.trans kd
 refine D_R rfl rfl (fun W hW => AK rfl Z3) (D_R rfl rfl (fun W hW => AF rfl Z3) (D_R rfl rfl (fun W hW => AB rfl Z3) (D_R rfl rfl (fun W hW => AG rfl (qx0 W hW) Z3) (D_R rfl rfl (fun W hW => AK rfl Z3) (D_R rfl rfl (fun W hW => AF rfl Z3) (D_R rfl rfl (fun W hW => AB rfl Z3) (D_R rfl rfl (fun W hW => AG rfl (qy0 W hW) Z3) (D_neqF rfl rfl rfl rfl (by omega) (D_R rfl rfl (fun W hW => AC (AD rfl Z3)) (Ax ?_))))))))))
 repeat first | refine nx rfl ?_ | refine nf rfl ?_
 refine A5 (.read 0 (.read 1 (.read 2 (.read 3 (.read 4 (.read 5 (.read 6 (.read 7 (.read 8 (.read 9 .done)))))))))) BC (by kernel_rfl) (fun wd kd ed => ⟨Ext w, ?_, ?_⟩)
 ·exact kw.trans kd
 replace kw := kw.trans kd
 (refine D_R rfl rfl (fun W hW => AK rfl Z3) (D_R rfl rfl (fun W hW => AF rfl Z3) (D_R rfl rfl (fun W hW => AB rfl Z3) (D_R rfl rfl (fun W hW => AG rfl (qx1 W hW) Z3) (D_R rfl rfl (fun W hW => AK rfl Z3) (D_R rfl rfl (fun W hW => AF rfl Z3) (D_R rfl rfl (fun W hW => AB rfl Z3) (D_R rfl rfl (fun W hW => AG rfl (qy1 W hW) Z3) ?_))))))) <;> (refine D_sneq rfl rfl rfl rfl (fun hc => ?_) (fun hc => ?_)) <;> refine D_R rfl rfl (fun W hW => AC (AD rfl Z3)) (Ax ?_))
 ·repeat refine nx rfl ?_
  have n1 : cmpS f.name g.name ≠ 0 := fun e => hc (cmpS_zero.1 e)
  refine A5 (.read 0 (.read 1 (.read 2 (.read 3 (.read 4 (.read 5 (.read 6 (.read 7 (.alt 8 (.read 9 .done) .stop))))))))) BC (by kernel_rfl) (fun wd kd ed => ⟨Ext w, ?_, ?_⟩)
  ·exact kw.trans kd
  replace kw := kw.trans kd
  refine D_R rfl rfl (fun W hW => AK rfl Z3) (D_R rfl rfl (fun W hW => AF rfl Z3) (D_R rfl rfl (fun W hW => AB rfl Z3) (D_R rfl rfl (fun W hW => AG rfl (qx1 W hW) Z3) (D_R rfl rfl (fun W hW => AK rfl Z3) (D_R rfl rfl (fun W hW => AF rfl Z3) (D_R rfl rfl (fun W hW => AB rfl Z3) (D_R rfl rfl (fun W hW => AG rfl (qy1 W hW) Z3) ?_)))))))
  refine D_E rfl ?_
  refine AO (cmpStr_ok f.name g.name _) rfl ?_
  rintro _ _ ⟨rfl, rfl⟩
  refine AJ ⟨Ext w, fun _ e => e, kw, ?_⟩
  refine D_R rfl rfl (fun W hW => AC (AH rfl Z3)) (Ax ?_)
  repeat refine nx rfl ?_
  exact AQ rfl ⟨congrArg (Value.int .i64) (by simp only [cmpN]; rw [CX z0, thenI_ne n1]), kw⟩
 have z1 := cmpS_zero.2 hc
 repeat first | refine nx rfl ?_ | refine nf rfl ?_
 by_cases h2 : f.val = g.val
 rotate_left
 ·refine A5 (.read 0 (.read 1 (.read 2 (.read 3 (.read 4 (.read 5 (.read 6 (.read 7 (.read 8 (.read 9 .done)))))))))) BC (by kernel_rfl) (fun wd kd ed => ⟨Ext w, ?_, ?_⟩)
  ·exact kw.trans kd
  replace kw := kw.trans kd
  refine D_R rfl rfl (fun W hW => AK rfl Z3) (D_R rfl rfl (fun W hW => AF rfl Z3) (D_R rfl rfl (fun W hW => AB rfl Z3) (D_R rfl rfl (fun W hW => AG rfl (qx2 W hW) Z3) (D_R rfl rfl (fun W hW => AK rfl Z3) (D_R rfl rfl (fun W hW => AF rfl Z3) (D_R rfl rfl (fun W hW => AB rfl Z3) (D_R rfl rfl (fun W hW => AG rfl (qy2 W hW) Z3) (D_neqT rfl rfl rfl rfl (by omega) (D_R rfl rfl (fun W hW => AC (AD rfl Z3)) (Ax ?_))))))))))
  repeat refine nx rfl ?_
  have n2 : cmpI f.val g.val ≠ 0 := fun e => h2 (cmpI_zero.1 e)
  refine A5 (.read 0 (.read 1 (.read 2 (.read 3 (.read 4 (.read 5 (.read 6 (.read 7 (.alt 8 (.read 9 .done) .stop))))))))) BC (by kernel_rfl) (fun wd kd ed => ⟨Ext w, ?_, ?_⟩)
  ·exact kw.trans kd
  replace kw := kw.trans kd
  refine D_R rfl rfl (fun W hW => AK rfl Z3) (D_R rfl rfl (fun W hW => AF rfl Z3) (D_R rfl rfl (fun W hW => AB rfl Z3) (D_R rfl rfl (fun W hW => AG rfl (qx2 W hW) Z3) (D_R rfl rfl (fun W hW => AK rfl Z3) (D_R rfl rfl (fun W hW => AF rfl Z3) (D_R rfl rfl (fun W hW => AB rfl Z3) (D_R rfl rfl (fun W hW => AG rfl (qy2 W hW) Z3) ?_)))))))
  refine D_E rfl ?_
  refine AO (cmpInt_ok f.val g.val _) rfl ?_
  rintro _ _ ⟨rfl, rfl⟩
  refine AJ ⟨Ext w, fun _ e => e, kw, ?_⟩
  refine D_R rfl rfl (fun W hW => AC (AH rfl Z3)) (Ax ?_)
  repeat refine nx rfl ?_
  exact AQ rfl ⟨congrArg (Value.int .i64) (by simp only [cmpN]; rw [CX z0, CX z1, thenI_ne n2]), kw⟩
 have z2 := cmpI_zero.2 h2
 refine A5 (.read 0 (.read 1 (.read 2 (.read 3 (.read 4 (.read 5 (.read 6 (.read 7 (.read 8 (.read 9 .done)))))))))) BC (by kernel_rfl) (fun wd kd ed => ⟨Ext w, ?_, ?_⟩)
 ·exact kw.trans kd
 replace kw := kw.trans kd
 refine D_R rfl rfl (fun W hW => AK rfl Z3) (D_R rfl rfl (fun W hW => AF rfl Z3) (D_R rfl rfl (fun W hW => AB rfl Z3) (D_R rfl rfl (fun W hW => AG rfl (qx2 W hW) Z3) (D_R rfl rfl (fun W hW => AK rfl Z3) (D_R rfl rfl (fun W hW => AF rfl Z3) (D_R rfl rfl (fun W hW => AB rfl Z3) (D_R rfl rfl (fun W hW => AG rfl (qy2 W hW) Z3) (D_neqF rfl rfl rfl rfl (by omega) (D_R rfl rfl (fun W hW => AC (AD rfl Z3)) (Ax ?_))))))))))
 repeat first | refine nx rfl ?_ | refine nf rfl ?_
 by_cases h3 : f.bound = g.bound
 rotate_left
 ·refine A5 (.read 0 (.read 1 (.read 2 (.read 3 (.read 4 (.read 5 (.read 6 (.read 7 (.read 8 (.read 9 .done)))))))))) BC (by kernel_rfl) (fun wd kd ed => ⟨Ext w, ?_, ?_⟩)
  ·exact kw.trans kd
  replace kw := kw.trans kd
  refine D_R rfl rfl (fun W hW => AK rfl Z3) (D_R rfl rfl (fun W hW => AF rfl Z3) (D_R rfl rfl (fun W hW => AB rfl Z3) (D_R rfl rfl (fun W hW => AG rfl (qx3 W hW) Z3) (D_R rfl rfl (fun W hW => AK rfl Z3) (D_R rfl rfl (fun W hW => AF rfl Z3) (D_R rfl rfl (fun W hW => AB rfl Z3) (D_R rfl rfl (fun W hW => AG rfl (qy3 W hW) Z3) (D_neqT rfl rfl rfl rfl (by omega) (D_R rfl rfl (fun W hW => AC (AD rfl Z3)) (Ax ?_))))))))))
  repeat refine nx rfl ?_
  have n3 : cmpI f.bound g.bound ≠ 0 := fun e => h3 (cmpI_zero.1 e)
  refine A5 (.read 0 (.read 1 (.read 2 (.read 3 (.read 4 (.read 5 (.read 6 (.read 7 (.alt 8 (.read 9 .done) .stop))))))))) BC (by kernel_rfl) (fun wd kd ed => ⟨Ext w, ?_, ?_⟩)
  ·exact kw.trans kd
  replace kw := kw.trans kd
  refine D_R rfl rfl (fun W hW => AK rfl Z3) (D_R rfl rfl (fun W hW => AF rfl Z3) (D_R rfl rfl (fun W hW => AB rfl Z3) (D_R rfl rfl (fun W hW => AG rfl (qx3 W hW) Z3) (D_R rfl rfl (fun W hW => AK rfl Z3) (D_R rfl rfl (fun W hW => AF rfl Z3) (D_R rfl rfl (fun W hW => AB rfl Z3) (D_R rfl rfl (fun W hW => AG rfl (qy3 W hW) Z3) ?_)))))))
  refine D_E rfl ?_
  refine AO (cmpInt_ok f.bound g.bound _) rfl ?_
  rintro _ _ ⟨rfl, rfl⟩
  refine AJ ⟨Ext w, fun _ e => e, kw, ?_⟩
  refine D_R rfl rfl (fun W hW => AC (AH rfl Z3)) (Ax ?_)
  repeat refine nx rfl ?_
  exact AQ rfl ⟨congrArg (Value.int .i64) (by simp only [cmpN]; rw [CX z0, CX z1, CX z2, thenI_ne n3]), kw⟩
 have z3 := cmpI_zero.2 h3
 refine A5 (.read 0 (.read 1 (.read 2 (.read 3 (.read 4 (.read 5 (.read 6 (.read 7 (.read 8 (.read 9 .done)))))))))) BC (by kernel_rfl) (fun wd kd ed => ⟨Ext w, ?_, ?_⟩)
 ·exact kw.trans kd
 replace kw := kw.trans kd
 refine D_R rfl rfl (fun W hW => AK rfl Z3) (D_R rfl rfl (fun W hW => AF rfl Z3) (D_R rfl rfl (fun W hW => AB rfl Z3) (D_R rfl rfl (fun W hW => AG rfl (qx3 W hW) Z3) (D_R rfl rfl (fun W hW => AK rfl Z3) (D_R rfl rfl (fun W hW => AF rfl Z3) (D_R rfl rfl (fun W hW => AB rfl Z3) (D_R rfl rfl (fun W hW => AG rfl (qy3 W hW) Z3) (D_neqF rfl rfl rfl rfl (by omega) (D_R rfl rfl (fun W hW => AC (AD rfl Z3)) (Ax ?_))))))))))
 repeat first | refine nx rfl ?_ | refine nf rfl ?_
 refine A5 (.read 0 (.read 1 (.read 2 (.read 3 (.read 4 (.read 5 (.read 6 (.read 7 (.read 8 (.read 9 (.alt 10 (.read 11 .done) .stop))))))))))) BC (by kernel_rfl) (fun wd kd ed => ⟨Ext w, ?_, ?_⟩)
 ·exact kw.trans kd
 replace kw := kw.trans kd
 refine D_R rfl rfl (fun W hW => AK rfl Z3) (D_R rfl rfl (fun W hW => AF rfl Z3) (D_R rfl rfl (fun W hW => AB rfl Z3) (D_R rfl rfl (fun W hW => AG rfl (qx4 W hW) Z3) (D_R rfl rfl (fun W hW => At rfl Z3) (D_R rfl rfl (fun W hW => AK rfl Z3) (D_R rfl rfl (fun W hW => AF rfl Z3) (D_R rfl rfl (fun W hW => AB rfl Z3) (D_R rfl rfl (fun W hW => AG rfl (qy4 W hW) Z3) (D_R rfl rfl (fun W hW => At rfl Z3) ?_)))))))))
 refine D_E rfl ?_
 refine AO (cmpInt_ok f.args.length g.args.length _) rfl ?_
 rintro _ _ ⟨rfl, rfl⟩
 refine AJ ⟨Ext w, fun _ e => e, kw, ?_⟩
 refine D_R rfl rfl (fun W hW => AC (AH rfl Z3)) (Ax ?_)
 repeat refine nx rfl ?_
 exact AQ rfl ⟨congrArg (Value.int .i64) (by simp only [cmpN]; rw [CX z0, CX z1, CX z2, CX z3]), kw⟩
end Go.Proofs.YtfcgdbmoncnibaaGreatDoor
namespace Go.Proofs.YtfcgdbmoncnibaaGreatDoor
open Go.RowKit
set_option linter.unusedVariables false
variable {mk : Prop} [MK mk]
theorem sl_same {ok ok' : Nat → Prop} {w : World} {a : Option Addr} {n c c' k : Nat} {cs cs' : List Value} (h : Sl ok w (.slice a n c) n cs) (h' : Sl ok' w (.slice a n c') n cs') (hl : cs.length = n * k) (hl' : cs'.length = n * k) : cs = cs' := by
 by_cases h0 : n = 0
 ·subst h0
  have e1 : cs = [] := List.eq_nil_of_length_eq_zero (by simpa using hl)
  have e2 : cs' = [] := List.eq_nil_of_length_eq_zero (by simpa using hl')
  rw [e1, e2]
 ·obtain ⟨_, _, e, _, _, _, h4⟩ := h
  obtain ⟨_, _, e', _, _, _, h4'⟩ := h'
  cases e; cases e'
  obtain ⟨b, o, rfl, _, hc⟩ := h4.resolve_left h0
  obtain ⟨b', o', e, _, hc'⟩ := h4'.resolve_left h0
  cases e
  refine List.ext_getElem? fun i => ?_
  by_cases hi : i < n * k
  ·have e1 := List.getElem?_eq_getElem (l := cs) (i := i) (by omega)
   have e2 := List.getElem?_eq_getElem (l := cs') (i := i) (by omega)
   have h1 := hc i _ e1
   have h2 := hc' i _ e2
   rw [e1, e2, ← h1, ← h2]
  ·rw [List.getElem?_eq_none (by omega), List.getElem?_eq_none (by omega)]
theorem flat_inj (n : Nat) (hn : 0 < n) : ∀ {L M : List (List Value)}, (∀ d ∈ L, d.length = n) → (∀ d ∈ M, d.length = n) → L.flatten = M.flatten → L = M
 | [], [], _, _, _ => rfl
 | [], d :: M, _, hM, e => by
  have := congrArg List.length e
  have h1 := hM d (by simp)
  simp only [List.flatten_nil, List.length_nil, List.flatten_cons, List.length_append] at this
  omega
 | c :: L, [], hL, _, e => by
  have := congrArg List.length e
  have h1 := hL c (by simp)
  simp only [List.flatten_nil, List.length_nil, List.flatten_cons, List.length_append] at this
  omega
 | c :: L, d :: M, hL, hM, e => by
  rw [List.flatten_cons, List.flatten_cons] at e
  obtain ⟨e1, e2⟩ := List.append_inj e (by rw [hL c (by simp), hM d (by simp)])
  rw [e1, flat_inj n hn (fun x hx => hL x (by simp [hx])) (fun x hx => hM x (by simp [hx])) e2]
theorem FAt.uniq {ok ok' : Nat → Prop} {w : World} : ∀ (f g : Fml) (v : Value), FAt ok w v f → FAt ok' w v g → f = g
 | .mk op nm x b args, g, v, hf, hg => by
  obtain ⟨av, rfl, L, hS, hL, h5, hA⟩ := hf.form
  obtain ⟨av', e, L', hS', hL', h5', hA'⟩ := hg.form
  simp only [Value.agg.injEq, Array.mk.injEq, List.cons.injEq, Value.int.injEq, true_and, and_true] at e
  obtain ⟨e1, e2, e3, e4, e5⟩ := e
  subst e5
  obtain ⟨a, c, rfl, hS0⟩ := id hS
  obtain ⟨a', c', e6, hS0'⟩ := id hS'
  have hlen : args.length = g.args.length := (Value.slice.inj e6).2.1
  have e7 : L.flatten = L'.flatten := by
   have hS2 : Sl ok' w (.slice a args.length c) args.length L'.flatten := by rw [hlen]; rw [← hlen]; exact hlen ▸ hS'
   refine sl_same (k := 5) hS hS2 ?_ ?_
   ·rw [Ce 5 L h5, hL]
   ·rw [Ce 5 L' h5', hL']; exact congrArg (· * 5) hlen.symm
  have e8 := flat_inj 5 (by omega) h5 h5' e7
  subst e8
  have e9 : args = g.args := by
   refine List.ext_getElem? fun i => ?_
   by_cases hi : i < args.length
   ·have hLi : L[i]? = some L[i] := List.getElem?_eq_getElem (by omega)
    have ha : args[i]? = some args[i] := List.getElem?_eq_getElem hi
    have hb : g.args[i]? = some g.args[i] := List.getElem?_eq_getElem (by omega)
    rw [ha, hb, FAt.uniq args[i] g.args[i] _ (hA i _ _ hLi ha) (hA' i _ _ hLi hb)]
   ·rw [List.getElem?_eq_none (by omega), List.getElem?_eq_none (by omega)]
  have e2' : nm = g.name := by
   have h2 : AI nm = AI g.name := e2
   simp only [AI, Value.string.injEq, ByteArray.mk.injEq] at h2
   simpa using congrArg Array.toList h2
  obtain ⟨o, n', v', b', l'⟩ := g
  have e1 : op = o := e1
  have e2 : nm = n' := e2'
  have e3 : x = v' := e3
  have e4 : b = b' := e4
  have e5 : args = l' := e9
  rw [e1, e2, e3, e4, e5]
 termination_by f => f
 decreasing_by
  have := List.sizeOf_lt_of_mem (List.getElem_mem hi)
  simp_wf
  omega
def FL (ok : Nat → Prop) (w : World) (v : Value) (l : List Fml) : Prop := ∃ a c L, v = .slice a l.length c ∧ Sl ok w (.slice a l.length c) l.length L.flatten ∧ FsAt ok w L l
theorem FL.keep {ok : Nat → Prop} {X : List Nat} {w w' : World} {v : Value} {l : List Fml} (h : FL ok w v l) (k : Keep X w w') (hX : ∀ b, ok b → b ∉ X) : FL ok w' v l := by
 obtain ⟨a, c, L, rfl, h1, h2⟩ := h
 exact ⟨a, c, L, rfl, h1.keep k hX, h2.keep k hX⟩
theorem PF.args {ok : Nat → Prop} {w : World} {b o : Nat} {f : Fml} (h : PF ok w b o f) : ∃ v, w.cell? ⟨b, o + 4, none⟩ = some v ∧ FL ok w v f.args := by
 obtain ⟨_, a, c, L, hc, hS, hF⟩ := h.form
 exact ⟨_, hc 4 _ rfl, a, c, L, rfl, hS, hF⟩
theorem FL.cons {ok : Nat → Prop} {w : World} {v : Value} {x : Fml} {l : List Fml} (h : FL ok w v (x :: l)) : ∃ b o c, v = .slice (some ⟨b, o, none⟩) (l.length + 1) c ∧ 1 ≤ c ∧ PF ok w b o x ∧ FL ok w (.slice (adv c 1 5 (some ⟨b, o, none⟩)) l.length (c - 1)) l := by
 obtain ⟨a, c, L, rfl, hS, hF⟩ := h
 obtain ⟨a', c', e, h1, h2, h3, h4⟩ := hS
 cases e
 obtain ⟨b, o, rfl, hb, hc⟩ := h4.resolve_left (by simp)
 obtain ⟨hL, h5, hA⟩ := hF
 match L, hL, h5, hA, hc with
 | d :: L, hL, h5, hA, hc =>
  have hd := h5 d (by simp)
  have hcd : Cells w b o d := fun i u hu => hc i u (by rw [List.flatten_cons, List.getElem?_append_left (List.getElem?_eq_some_iff.1 hu).1]; exact hu)
  have hLl : L.length = l.length := by simpa using hL
  refine ⟨b, o, c, rfl, by simp at h1; omega, ⟨hb, d, hd, hcd, hA 0 d x rfl rfl⟩, _, _, L, rfl, ⟨_, _, rfl, by simp at h1; omega, by omega, ?_, ?_⟩, hLl, fun c hc => h5 c (by simp [hc]), fun i c g hc hg => hA (i + 1) c g (by simpa using hc) (by simpa using hg)⟩
  ·intro ha
   unfold adv at ha
   split at ha
   ·cases ha
   ·simp at ha
  ·by_cases h0 : l.length = 0
   ·exact .inl h0
   ·refine .inr ⟨b, o + 5, ?_, hb, ?_⟩
    ·unfold adv
     rw [if_neg (by simp at h1; omega)]
     rfl
    ·intro i u hu
     have := hc (5 + i) u (by rw [List.flatten_cons, List.getElem?_append_right (by omega), hd, show 5 + i - 5 = i by omega]; exact hu)
     rw [Nat.add_assoc]; exact this
theorem FL.form {ok : Nat → Prop} {w : World} {v : Value} {l : List Fml} (h : FL ok w v l) : ∃ a c, v = .slice a l.length c := by
 obtain ⟨a, c, L, rfl, _⟩ := h
 exact ⟨a, c, rfl⟩
theorem PF.uniq {ok ok' : Nat → Prop} {w : World} {b o : Nat} {f g : Fml} (hf : PF ok w b o f) (hg : PF ok' w b o g) : f = g := by
 obtain ⟨_, d, hd, hc, h1⟩ := hf
 obtain ⟨_, d', hd', hc', h2⟩ := hg
 have : d = d' := by
  refine List.ext_getElem? fun i => ?_
  by_cases hi : i < 5
  ·have e1 := List.getElem?_eq_getElem (l := d) (i := i) (by omega)
   have e2 := List.getElem?_eq_getElem (l := d') (i := i) (by omega)
   rw [e1, e2, ← hc i _ e1, ← hc' i _ e2]
  ·rw [List.getElem?_eq_none (by omega), List.getElem?_eq_none (by omega)]
 subst this
 exact FAt.uniq f g _ h1 h2
theorem cell_blk {w : World} {b o : Nat} {v : Value} (h : w.cell? ⟨b, o, none⟩ = some v) : ∃ c t fr, w.heap[b]? = some (.cells c t fr) ∧ 0 < c.size ∧ c[o]? = some v := by
 unfold World.cell? at h
 split at h
 ·rename_i c t fr heq
  simp at h
  exact ⟨c, t, fr, heq, by have := (Array.getElem?_eq_some_iff.1 h).1; omega, h⟩
 ·cases h
theorem unm_blk {w : World} {b o : Nat} {n : Int} (hu : Unm w b) (h : w.cell? ⟨b, o, none⟩ = some (.int .i64 n)) : ∃ c t, w.heap[b]? = some (.cells c t (0, 0)) ∧ 0 < c.size := by
 obtain ⟨c, t, fr, h1, h2, h3⟩ := cell_blk h
 rcases hu c t fr h1 with rfl | h4
 ·exact ⟨c, t, h1, h2⟩
 ·obtain ⟨m, e⟩ := h4 o _ h3
  cases e
section
attribute [local semireducible] WC AV CA Bc B7 C3 DW Bw
variable {P : Program} {all : Array Oper} {Z : Fr → DS → List PanicEntry → World → Prop} {K : Fr → DS → World → Prop} {rest : List Oper} {f : Fr} {ds : DS} {w : World} {d : Nat} {ty : TypeId} {pos : String} {af : Array Edge}
theorem W_slice_arr_h {T e size len : Nat} {b o : Nat} {x hi : Operand} {k' : IntKind} {h' : Int} [hT : ArrT P T len e size] (hx : ev f x = .pointer (some ⟨b, o, none⟩)) (hh : ev f hi = .int k' h') (h1 : 0 ≤ h') (h2 : h' ≤ len)
  (h : AV P all Z K rest (upd f d (.slice (some ⟨b, o, none⟩) h'.toNat len)) ds w) : AV P all Z K (⟨some d, .slice T x none (some hi) none, ty, pos, af, none⟩ :: rest) f ds w := by
 obtain ⟨q, hq, hs⟩ := hT.out
 refine A7 rfl ?_ h
 simp only [execOp, hx, hh, Option.map_some, Option.map_none, Instr.sliceAt, Sem.run_bind, run_underlying hT.und, Result.andThen_ok, Instr.sureAddr, Instr.sliceBounds, Instr.sliceBound, asIntOf, Sem.run_pure, sizeOf, typeInfo, program]
 simp [Sem.run, hq, hs, h1, h2, Addr.add_lit]
theorem run_append_roomE (t ty e e0 : TypeId) (i : TypeInfo) (ht : P.underlying t = some (.slice e)) (hi : P.info? e = some i)
  (g sLen sCap : Nat) (cur : Array Value) (hg : w.heap[g]? = some (.cells cur e0 (0, 0)))
  (a : Addr) (m c : Nat) (news : List Value) (hl : news.length = m * i.size) (hnews : ∀ j u, news[j]? = some u → w.cell? (a.add j) = some u) (h1 : ∀ u ∈ news, u.oneCell' = true)
  (hroom : sLen + m ≤ sCap) (hfit : sLen * i.size + news.length ≤ cur.size) :
  (Builtin.append_ #[t, t] ty #[.slice (some ⟨g, 0, none⟩) sLen sCap, .slice (some a) m c]).run P w =
   .ok (.slice (some ⟨g, 0, none⟩) (sLen + m) sCap) (w.setRow g (cur.toList.take (sLen * i.size) ++ news ++ cur.toList.drop (sLen * i.size + news.length)).toArray) := by
 have hf := run_firstCells_some (P := P) w i.size m a m c news hl hnews
 have hst := run_storeCells_at P g (sLen * i.size) e0 news 0 cur w hg (by simpa using hfit) h1
 simp only [Nat.add_zero] at hst
 simp [Builtin.append_, run_underlying ht, sizeOf, typeInfo, hi, Builtin.lenOf, hroom, hf, Addr.add_lit, hst]
theorem W_append1 {T e e0 size bytes n cap g : Nat} {z : Value} {s x : Operand} {sv : Value} {cur : Array Value} {cs : List Value} {ok : Nat → Prop} [hT : SlT P T e size bytes z] (hv : ev f s = .slice (some ⟨g, 0, none⟩) n cap) (hx : ev f x = sv)
  (hg : w.heap[g]? = some (.cells cur e0 (0, 0))) (hcs : cur.size = cap * size) (hnc : n ≤ cap) (hcm : cap ≤ maxLen) (hs : Sl ok w sv 1 cs) (hsz : 0 < size) (hzs : z.cells.size = size) (hl : cs.length = size) (h1 : oneC cs) (hm : n + 1 ≤ 9223372036854775807) (hb : (n + 1) * bytes ≤ 140737488355328)
  (h : ∀ g' cap' e' (cur' : Array Value) w', (g' = g ∨ g' = w.heap.size) → w'.heap[g']? = some (.cells cur' e' (0, 0)) → cur'.size = cap' * size → n + 1 ≤ cap' → cap' ≤ maxLen → cur'.toList.take ((n + 1) * size) = cur.toList.take (n * size) ++ cs → Keep [g] w w' →
   AV P all Z K rest (upd f d (.slice (some ⟨g', 0, none⟩) (n + 1) cap')) ds w') :
  AV P all Z K (⟨some d, .call ⟨.builtin .append, #[s, x], #[T, T]⟩, ty, pos, af, none⟩ :: rest) f ds w := by
 obtain ⟨i, hi, hz, hsi, hby⟩ := hT.out
 obtain ⟨a, cp, rfl, hmc, _, hnil, hcells⟩ := hs
 obtain ⟨b, off, rfl, _, hc⟩ := hcells.resolve_left (by omega)
 have hnews : ∀ j u, cs[j]? = some u → w.cell? ((⟨b, off, none⟩ : Addr).add j) = some u := fun j u hu => by rw [Addr.add_lit]; exact hc j u hu
 have hsl : cs.length = 1 * i.size := by rw [hsi]; omega
 have htk : (cur.toList.take (n * size)).length = n * size := by
  rw [List.length_take, Array.length_toList, hcs]
  exact Nat.min_eq_left (Nat.mul_le_mul_right _ hnc)
 by_cases hroom : n + 1 ≤ cap
 ·have hfit : n * i.size + cs.length ≤ cur.size := by
   rw [hsi, hl, hcs, ← Nat.succ_mul]; exact Nat.mul_le_mul_right _ hroom
  have hr := run_append_roomE (P := P) (w := w) T ty e e0 i hT.und hi g n cap cur hg ⟨b, off, none⟩ 1 cp cs hsl hnews h1 hroom hfit
  refine A7 (w' := w.setRow g (cur.toList.take (n * i.size) ++ cs ++ cur.toList.drop (n * i.size + cs.length)).toArray) rfl (by simp [execOp, resolve, invoke, builtin, hv, hx, hr]) (h g cap e0 _ _ (.inl rfl) (setRow_heap w g cur _ e0 _ hg) ?_ hroom hcm ?_ ?_)
  ·simp only [List.size_toArray, List.length_append, List.length_take, List.length_drop, Array.length_toList]
   omega
  ·rw [hsi, List.append_assoc]
   have : (n + 1) * size = (cur.toList.take (n * size) ++ cs).length := by rw [List.length_append, htk, hl, Nat.succ_mul]
   rw [this, ← List.append_assoc]
   exact List.take_left
  ·exact ⟨rfl, rfl, rfl, by simp, fun k _ hk => setRow_other w g k _ (by simpa using hk), fun _ => mark_put (g := g) (by simp [World.setRow]) (fun k hk => setRow_other w g k _ hk) (Unm.cells (setRow_heap w g _ _ e0 _ hg))⟩
 ·have holds : ∀ j u, (cur.toList.take (n * size))[j]? = some u → w.cell? ((⟨g, 0, none⟩ : Addr).add j) = some u := fun j u hu => by
   rw [Addr.add_lit, Nat.zero_add]
   rw [List.getElem?_take] at hu
   split at hu
   ·simp only [World.cell?, hg]
    simpa using hu
   ·cases hu
  have hm63 : ((n + 1 : Nat) : Int) ≤ 9223372036854775807 := by omega
  have hr := run_append_grow (P := P) w T ty e i z hT.und hi hz ⟨g, 0, none⟩ n cap (cur.toList.take (n * size)) (by rw [hsi]; exact htk) holds ⟨b, off, none⟩ 1 cp cs hsl hnews (by omega) hm63 (by rw [hby]; exact growslice_fits (by omega) hb)
  refine A7 (w' := w.drew.alloc (.cells ((cur.toList.take (n * size)).toArray ++ cs.toArray ++ Builtin.zeroCells z.cells (grownCap w (n + 1) cap e - (n + 1))) e)) rfl (by simp [execOp, resolve, invoke, builtin, hv, hx, hr]) (h w.heap.size _ e _ _ (.inr rfl) (heap_alloc_new w.drew _) ?_ (grownCap_ge w (n + 1) cap e) (grownCap_le_maxLen w (n + 1) cap e (by unfold maxLen; omega)) ?_ ?_)
  ·simp only [Array.size_append, List.size_toArray, size_zeroCells, hzs, htk, hl]
   have hge := grownCap_ge w (n + 1) cap e
   rw [← Nat.succ_mul, ← Nat.add_mul]
   congr 1
   omega
  ·simp only [Array.toList_append, List.append_assoc]
   have : (n + 1) * size = (cur.toList.take (n * size) ++ cs).length := by rw [List.length_append, htk, hl, Nat.succ_mul]
   rw [this, ← List.append_assoc]
   exact List.take_left
  ·exact ⟨rfl, rfl, rfl, by simp, fun k hk _ => heap_alloc_old w.drew _ hk, fun _ => mark_new (by simp) (fun k hk => heap_alloc_old w.drew _ hk) (Unm.cells (heap_alloc_new w.drew _))⟩
end
end Go.Proofs.YtfcgdbmoncnibaaGreatDoor
namespace Go.Proofs.YtfcgdbmoncnibaaGreatDoor
open Go.RowKit
set_option linter.unusedVariables false
variable {mk : Prop} [MK mk]
abbrev PP := List Fml × List Fml
def cmpSt : List PP → Int
 | [] => 0
 | p :: r => Cc (cmpL p.1 p.2) (cmpSt r)
def wtSt (ps : List PP) : Nat := (ps.map fun p => 2 * szL p.1 + 1).sum
theorem BM (ps : List PP) (p : PP) : wtSt (ps ++ [p]) = wtSt ps + (2 * szL p.1 + 1) := by simp [wtSt]
theorem wtSt_len : ∀ ps : List PP, ps.length ≤ wtSt ps
 | [] => Nat.zero_le _
 | p :: ps => by have := wtSt_len ps; simp only [wtSt, List.map_cons, List.sum_cons, List.length_cons] at this ⊢; omega
def Row2 (okf okg : Nat → Prop) (W : World) (c : List Value) (p : PP) : Prop := ∃ v v', c = [v, v'] ∧ FL okf W v p.1 ∧ FL okg W v' p.2 ∧ p.1.length = p.2.length
theorem Row2.keep {okf okg : Nat → Prop} {X : List Nat} {W W' : World} {c : List Value} {p : PP} (h : Row2 okf okg W c p) (k : Keep X W W') (h1 : ∀ b, okf b → b ∉ X) (h2 : ∀ b, okg b → b ∉ X) : Row2 okf okg W' c p := by
 obtain ⟨v, v', e, a, b, l⟩ := h
 exact ⟨v, v', e, a.keep k h1, b.keep k h2, l⟩
structure CS (okf okg : Nat → Prop) (C : Nat) (W : World) (g cap : Nat) (e : TypeId) (L : List (List Value)) (rest : List Value) (ps : List PP) : Prop where
 ge : C ≤ g
 blk : Blk W g e (L.flatten ++ rest)
 len : (L.flatten ++ rest).length = cap * 2
 mx : cap ≤ maxLen
 two : ∀ c ∈ L, c.length = 2
 ll : L.length = ps.length
 rows : ∀ (i : Nat) (c : List Value) (p : PP), L[i]? = some c → ps[i]? = some p → Row2 okf okg W c p
 lo : ∀ b, okf b ∨ okg b → b < C
section
variable {okf okg : Nat → Prop} {C g cap : Nat} {W W' : World} {e : TypeId} {L : List (List Value)} {rest : List Value} {ps : List PP}
theorem CS.flat (h : CS okf okg C W g cap e L rest ps) : L.flatten.length = ps.length * 2 := by rw [Ce 2 L h.two, h.ll]
theorem CS.le (h : CS okf okg C W g cap e L rest ps) : ps.length ≤ cap := by
 have h1 := h.len
 rw [List.length_append, h.flat] at h1
 omega
theorem CS.ext (h : CS okf okg C W g cap e L rest ps) (k : Ext W W') : CS okf okg C W' g cap e L rest ps :=
 ⟨h.ge, h.blk.keep k (by simp), h.len, h.mx, h.two, h.ll, fun i c p hc hp => (h.rows i c p hc hp).keep k (by simp) (by simp), h.lo⟩
theorem CS.cut {c : List Value} {p : PP} (h : CS okf okg C W g cap e (L ++ [c]) rest (ps ++ [p])) : CS okf okg C W g cap e L (c ++ rest) ps := by
 have e1 : (L ++ [c]).flatten ++ rest = L.flatten ++ (c ++ rest) := by simp
 refine ⟨h.ge, by rw [← e1]; exact h.blk, by rw [← e1]; exact h.len, h.mx, fun d hd => h.two d (by simp [hd]), by have := h.ll; simpa using this, fun i d q hd hq => ?_, h.lo⟩
 have hi := (List.getElem?_eq_some_iff.1 hd).1
 have hi2 := (List.getElem?_eq_some_iff.1 hq).1
 exact h.rows i d q (by rw [List.getElem?_append_left hi]; exact hd) (by rw [List.getElem?_append_left hi2]; exact hq)
theorem CS.split (h : CS okf okg C W g cap e L rest ps) (h0 : 0 < ps.length) : ∃ L' ps' v v' l m, L = L' ++ [[v, v']] ∧ ps = ps' ++ [(l, m)] ∧ FL okf W v l ∧ FL okg W v' m ∧ l.length = m.length := by
 have hl := h.ll
 obtain ⟨ps', q, rfl⟩ : ∃ ps' q, ps = ps' ++ [q] := ⟨ps.dropLast, ps.getLast (by intro e; simp [e] at h0), (List.dropLast_concat_getLast _).symm⟩
 obtain ⟨L', c, rfl⟩ : ∃ L' c, L = L' ++ [c] := ⟨L.dropLast, L.getLast (by intro e; simp [e] at hl), (List.dropLast_concat_getLast _).symm⟩
 simp only [List.length_append, List.length_singleton] at hl
 have hr := h.rows ps'.length c q (by rw [List.getElem?_append_right (by omega)]; simp [show ps'.length - L'.length = 0 by omega]) (by simp)
 obtain ⟨v, v', rfl, h1, h2, h3⟩ := hr
 exact ⟨L', ps', v, v', q.1, q.2, rfl, rfl, h1, h2, h3⟩
theorem CS.cells {v v' : Value} {l m : List Fml} (h : CS okf okg C W g cap e (L ++ [[v, v']]) rest (ps ++ [(l, m)])) : W.cell? ⟨g, 0 + ps.length * 2 + 0, none⟩ = some v ∧ W.cell? ⟨g, 0 + ps.length * 2 + 1, none⟩ = some v' ∧ 0 + ps.length * 2 + 1 < ((L ++ [[v, v']]).flatten ++ rest).length := by
 have hll := h.ll
 simp only [List.length_append, List.length_singleton] at hll
 have hL : L.flatten.length = ps.length * 2 := by rw [Ce 2 L fun c hc => h.two c (by simp [hc])]; omega
 have e0 : ((L ++ [[v, v']]).flatten ++ rest)[0 + ps.length * 2 + 0]? = some v := by
  simp only [List.flatten_append, List.flatten_cons, List.flatten_nil, List.append_nil, List.append_assoc]
  rw [List.getElem?_append_right (by omega)]
  simp [hL]
 have e1 : ((L ++ [[v, v']]).flatten ++ rest)[0 + ps.length * 2 + 1]? = some v' := by
  simp only [List.flatten_append, List.flatten_cons, List.flatten_nil, List.append_nil, List.append_assoc]
  rw [List.getElem?_append_right (by omega)]
  rw [show 0 + ps.length * 2 + 1 - L.flatten.length = 1 by omega]; rfl
 exact ⟨h.blk.cell e0, h.blk.cell e1, (List.getElem?_eq_some_iff.1 e1).1⟩
theorem CS.put {v v' u u' : Value} {l m l' m' : List Fml} (h : CS okf okg C W g cap e (L ++ [[v, v']]) rest (ps ++ [(l, m)])) (k : Keep [g] W W')
  (hb : Blk W' g e ((((L ++ [[v, v']]).flatten ++ rest).set (0 + ps.length * 2 + 0) u).set (0 + ps.length * 2 + 1) u')) (h1 : FL okf W' u l') (h2 : FL okg W' u' m') (hlm : l'.length = m'.length) : CS okf okg C W' g cap e (L ++ [[u, u']]) rest (ps ++ [(l', m')]) := by
 have hll := h.ll
 simp only [List.length_append, List.length_singleton] at hll
 have hL2 : ∀ c ∈ L, c.length = 2 := fun c hc => h.two c (by simp [hc])
 have hL : L.flatten.length = ps.length * 2 := by rw [Ce 2 L hL2]; omega
 have e0 : (((L ++ [[v, v']]).flatten ++ rest).set (0 + ps.length * 2 + 0) u).set (0 + ps.length * 2 + 1) u' = (L ++ [[u, u']]).flatten ++ rest := by
  simp only [List.flatten_append, List.flatten_cons, List.flatten_nil, List.append_nil, List.append_assoc]
  rw [List.set_append_right _ _ (by omega), List.set_append_right _ _ (by omega), show 0 + ps.length * 2 + 0 - L.flatten.length = 0 by omega, show 0 + ps.length * 2 + 1 - L.flatten.length = 1 by omega]
  rfl
 have hg : ∀ b, okf b ∨ okg b → b ∉ [g] := fun b hb hm => by
  have := h.lo b hb; have := h.ge; simp at hm; omega
 refine ⟨h.ge, by rw [← e0]; exact hb, ?_, h.mx, fun c hc => ?_, by simp; omega, fun i c p hc hp => ?_, h.lo⟩
 ·have := h.len
  simp only [List.flatten_append, List.flatten_cons, List.flatten_nil, List.append_nil, List.length_append, List.length_cons, List.length_nil] at this ⊢
  exact this
 ·rcases List.mem_append.1 hc with hc | hc
  ·exact hL2 c hc
  ·simp at hc; subst hc; rfl
 ·by_cases hi : i < L.length
  ·rw [List.getElem?_append_left hi] at hc
   rw [List.getElem?_append_left (by omega)] at hp
   exact (h.rows i c p (by rw [List.getElem?_append_left hi]; exact hc) (by rw [List.getElem?_append_left (by omega)]; exact hp)).keep k (fun b hb => hg b (.inl hb)) fun b hb => hg b (.inr hb)
  ·have hi2 := (List.getElem?_eq_some_iff.1 hc).1
   simp at hi2
   have : i = L.length := by omega
   subst this
   simp at hc
   have hp' : (ps ++ [(l', m')])[ps.length]? = some p := by rw [show ps.length = L.length by omega]; exact hp
   simp at hp'
   subst hc; subst hp'
   exact ⟨u, u', rfl, h1, h2, hlm⟩
theorem CS.push {g' cap' : Nat} {e' : TypeId} {cur' : Array Value} {u u' : Value} {l' m' : List Fml} (h : CS okf okg C W g cap e L rest ps) (hC : C ≤ W.heap.size) (hg : g' = g ∨ g' = W.heap.size) (hb : W'.heap[g']? = some (.cells cur' e' (0, 0))) (hs : cur'.size = cap' * 2) (hm : cap' ≤ maxLen)
  (ht : cur'.toList.take ((ps.length + 1) * 2) = (L.flatten ++ rest).take (ps.length * 2) ++ [u, u']) (k : Keep [g] W W') (h1 : FL okf W' u l') (h2 : FL okg W' u' m') (hlm : l'.length = m'.length) : CS okf okg C W' g' cap' e' (L ++ [[u, u']]) (cur'.toList.drop ((ps.length + 1) * 2)) (ps ++ [(l', m')]) := by
 have hll := h.ll
 have hge := h.ge
 have hno : ∀ b, okf b ∨ okg b → b ∉ [g] := fun b hb hm => by
  have := h.lo b hb; simp at hm; omega
 have e1 : (L.flatten ++ rest).take (ps.length * 2) = L.flatten := by rw [← h.flat]; exact List.take_left
 have e2 : (L ++ [[u, u']]).flatten ++ cur'.toList.drop ((ps.length + 1) * 2) = cur'.toList := by
  rw [e1] at ht
  simp only [List.flatten_append, List.flatten_cons, List.flatten_nil, List.append_nil]
  rw [← ht, List.take_append_drop]
 refine ⟨by rcases hg with rfl | rfl <;> omega, ?_, by rw [e2]; simpa using hs, hm, fun c hc => ?_, by simp; omega, fun i c p hc hp => ?_, h.lo⟩
 ·rw [e2]
  show W'.heap[g']? = _
  rw [hb]
 ·rcases List.mem_append.1 hc with hc | hc
  ·exact h.two c hc
  ·simp at hc; subst hc; rfl
 ·by_cases hi : i < L.length
  ·rw [List.getElem?_append_left hi] at hc
   rw [List.getElem?_append_left (by omega)] at hp
   exact (h.rows i c p hc hp).keep k (fun b hb => hno b (.inl hb)) fun b hb => hno b (.inr hb)
  ·have hi2 := (List.getElem?_eq_some_iff.1 hc).1
   simp at hi2
   have : i = L.length := by omega
   subst this
   have hp' : (ps ++ [(l', m')])[ps.length]? = some p := by rw [show ps.length = L.length by omega]; exact hp
   simp at hp' hc
   subst hc; subst hp'
   exact ⟨u, u', rfl, h1, h2, hlm⟩
end
end Go.Proofs.YtfcgdbmoncnibaaGreatDoor
namespace Go.Proofs.YtfcgdbmoncnibaaGreatDoor
open Go.RowKit
set_option linter.unusedVariables false
variable {mk : Prop} [MK mk]
theorem cmpL_cons0 {x y : Fml} {l m : List Fml} (h : cmpF x y = 0) : cmpL (x :: l) (y :: m) = cmpL l m := by rw [cmpL, CX h]
theorem Dm (a b c : Int) : Cc (Cc a b) c = Cc a (Cc b c) := by
 unfold Cc
 by_cases h : a = 0
 ·rw [if_pos h, if_pos h]
 ·rw [if_neg h, if_neg h, if_neg h]
structure CI (w : World) (okf okg : Nat → Prop) (N : Nat) (r : Int) (x : Nat × Nat × List PP) (W : World) : Prop where
 cs : ∃ e L rest, CS okf okg w.heap.size W x.1 x.2.1 e L rest x.2.2
 ext : Ext w W
 res : r = cmpSt x.2.2.reverse
 wt : wtSt x.2.2 ≤ N
theorem PF.op {ok : Nat → Prop} {w : World} {b o : Nat} {f : Fml} (h : PF ok w b o f) : w.cell? ⟨b, o + 0, none⟩ = some (.int .i64 f.op) := by
 obtain ⟨_, a, c, L, hc, _⟩ := h.form
 exact hc 0 _ rfl
theorem C0 (ps : List PP) (p : PP) : cmpSt (ps ++ [p]).reverse = Cc (cmpL p.1 p.2) (cmpSt ps.reverse) := by simp [cmpSt]
theorem cell_same {w W V : World} {b o : Nat} {v : Value} (k : Ext w W) (k' : Ext w V) (hb : b < w.heap.size) (h : W.cell? ⟨b, o, none⟩ = some v) : V.cell? ⟨b, o, none⟩ = some v := by
 have e1 := k.block b hb (by simp)
 have e2 := k'.block b hb (by simp)
 unfold World.cell? at h ⊢
 rw [e2, ← e1]
 exact h
set_option maxHeartbeats 6400000 in
theorem fcompare_ok (w : World) (v v' : Value) (f g : Fml) (okf okg : Nat → Prop) (hf : FAt okf w v f) (hg : FAt okg w v' g) (hu : (∀ b, okf b → Unm w b) ∨ (∀ b, okg b → Unm w b)) (hz : szF f ≤ 1000000) :
  Fn Tryz.prog 26 [v, v'] w fun r w' => r = .int .i64 (cmpF f g) ∧ Ext w w' := by
 obtain ⟨av, rfl, Lf, hSf, hFf⟩ := hf.form
 obtain ⟨bv, rfl, Lg, hSg, hFg⟩ := hg.form
 obtain ⟨a, c, rfl, _⟩ := id hSf
 obtain ⟨a', c', rfl, _⟩ := id hSg
 have hSf' := hSf.lt (flatten_ne hFf.1 hFf.2.1)
 have hSg' := hSg.lt (flatten_ne hFg.1 hFg.2.1)
 have hlf := hf.lt
 have hlg := hg.lt
 refine Af Tryz.func26 rfl Tryz.ntmps26 (Nat.le_of_ble_eq_true rfl) (by kernel_rfl) ?_
 repeat refine nx rfl ?_
 (refine AA ?_; refine B9 (L := fcC f (.slice a f.args.length c)) rfl (fun w1 n1 => ?_))
 refine B9 (L := fcC g (.slice a' g.args.length c')) rfl (fun w2 n2 => ?_)
 have b1 := n1.blk.keep n2.keep (by simp)
 have b2 := n2.blk
 have z1 := n1.size
 have z2 := n2.size
 have k2 : Ext w w2 := n1.keep.trans n2.keep
 refine AC (AH rfl ?_)
 repeat refine nx rfl ?_
 have pf : PF BS w2 w.heap.size 0 f := ⟨trivial, fcC f _, rfl, b1.cells, ((hf.ext k2).mono fun _ _ => trivial)⟩
 have pg : PF BS w2 w1.heap.size 0 g := ⟨trivial, fcC g _, rfl, b2.cells, ((hg.ext k2).mono fun _ _ => trivial)⟩
 refine AA ?_
 refine AO (cmpNodes_ok w2 _ _ _ _ f g pf pg) rfl ?_
 rintro _ w3 ⟨rfl, k3⟩
 refine AC (AH rfl ?_)
 repeat refine nx rfl ?_
 have e4 : w3.cell? ⟨w.heap.size, 0 + 4, none⟩ = some (.slice a f.args.length c) := (b1.keep k3 (by simp)).cell rfl
 have e4' : w3.cell? ⟨w1.heap.size, 0 + 4, none⟩ = some (.slice a' g.args.length c') := (b2.keep k3 (by simp)).cell rfl
 have k03 : Ext w w3 := k2.trans k3
 generalize hcn : cmpN f g = cn
 have hsp := cmpF_split f g
 rw [hcn] at hsp
 by_cases hne : cn = 0
 rotate_left
 ·(refine AA (AH rfl ?_) <;> (refine W_neq rfl rfl (fun hc => ?_) (fun hc => ?_) <;> try omega) <;> refine AD rfl (AM rfl (AM rfl (AM rfl (AM rfl (AN rfl (AD rfl ?_)))))))
  repeat refine nx rfl ?_
  refine AA (AH rfl (AC (AH rfl ?_)))
  repeat refine nx rfl ?_
  exact AQ rfl ⟨congrArg (Value.int .i64) (by rw [hsp, thenI_ne hne]), k03⟩
 rw [CX hne] at hsp
 by_cases h0 : f.args.length = 0
 ·(refine AA (AH rfl ?_) <;> (refine W_neq rfl rfl (fun hc => ?_) (fun hc => ?_) <;> try omega) <;> refine AD rfl (AE rfl (AB rfl (AE rfl (AG rfl (by assumption) ?_)))) <;> refine AE rfl (At rfl ?_) <;> (refine AE rfl ?_; (refine Da rfl rfl (fun hc => ?_) (fun hc => ?_) <;> try omega)) <;> refine AS rfl (AD rfl ?_))
  repeat refine nx rfl ?_
  refine AA (AH rfl (AC (AH rfl ?_)))
  repeat refine nx rfl ?_
  refine AQ rfl ⟨congrArg (Value.int .i64) ?_, k03⟩
  rw [hsp, List.length_eq_zero_iff.1 h0, hne]
  cases g.args <;> rfl
 (refine AA (AH rfl ?_) <;> (refine W_neq rfl rfl (fun hc => ?_) (fun hc => ?_) <;> try omega) <;> refine AD rfl (AE rfl (AB rfl (AE rfl (AG rfl (by assumption) ?_)))) <;> refine AE rfl (At rfl ?_) <;> (refine AE rfl ?_; (refine Da rfl rfl (fun hc => ?_) (fun hc => ?_) <;> try omega)) <;> refine AS rfl (AD rfl ?_))
 repeat first | refine nx rfl ?_ | refine nf rfl ?_
 have hlen : f.args.length = g.args.length := by
  unfold cmpN at hcn
  rw [hne] at hcn
  simp only [thenI_zero, cmpI_zero] at hcn
  omega
 refine AA ?_
 refine Av (fun w4 n4 => ?_)
 repeat refine nx rfl ?_
 have z4 := n4.size
 have z3 := k3.size
 have k04 := k03.trans n4.keep
 have FLf : ∀ W, Ext w W → FL (fun b => okf b ∧ b < w.heap.size) W (.slice a f.args.length c) f.args := fun W k => ⟨a, c, Lf, rfl, hSf'.ext k, (FsAt.lt hFf).keep k (by simp)⟩
 have FLg : ∀ W, Ext w W → FL (fun b => okg b ∧ b < w.heap.size) W (.slice a' g.args.length c') g.args := fun W k => ⟨a', c', Lg, rfl, hSg'.ext k, (FsAt.lt hFg).keep k (by simp)⟩
 have hUm : (∀ W, Ext w W → ∀ b, okf b ∧ b < w.heap.size → Unm W b) ∨ (∀ W, Ext w W → ∀ b, okg b ∧ b < w.heap.size → Unm W b) := by
  rcases hu with hu | hu
  ·exact .inl fun W k b hb => (hu b hb.1).eq (k.block b hb.2 (by simp))
  ·exact .inr fun W k b hb => (hu b hb.1).eq (k.block b hb.2 (by simp))
 clear hlf hlg hSf' hSg' pf pg
 refine A5 (.read 0 (.read 1 (.read 2 (.read 3 (.read 4 (.read 5 (.alt 6 (.alt 7 (.read 8 .done) .stop) .stop))))))) BC (by kernel_rfl) (fun wd kd ed => ⟨Ext w3, ?_, ?_⟩)
 ·exact n4.keep.trans kd
 have qa : ∀ W, Ext w3 W → W.cell? ⟨w.heap.size, 0 + 4, none⟩ = some (.slice a f.args.length c) := fun W e => e.cell e4 (by simp)
 have qb : ∀ W, Ext w3 W → W.cell? ⟨w1.heap.size, 0 + 4, none⟩ = some (.slice a' g.args.length c') := fun W e => e.cell e4' (by simp)
 (apply D_R rfl rfl; (intro W hW; (refine W_slice_arr_h rfl rfl (by omega) (by omega) ?_); exact AJ ⟨rfl, rfl, rfl⟩))
 (refine D_R rfl rfl (fun W hW => AB rfl Z3) (D_R rfl rfl (fun W hW => AG rfl (qa W hW) Z3) (D_R rfl rfl (fun W hW => AB rfl Z3) (D_R rfl rfl (fun W hW => AG rfl (qb W hW) Z3) ?_))) <;> (apply D_R rfl rfl; (intro W hW; refine Ac (by rfl) (by rfl) ?_; exact Z3)))
 refine D_E rfl ?_
 refine AT (out := [.slice a f.args.length c, .slice a' g.args.length c']) rfl (by omega) (by kernel_rfl) (fun w5 n5 => ?_)
 have z5 := n5.size
 have zd := kd.size
 refine AJ ⟨Ext w3, fun _ e => e, (n4.keep.trans kd).trans n5.keep, ?_⟩
 have b5 := (n4.blk.keep kd (by simp)).keep n5.keep (by simp)
 have k45 := (n4.keep.trans kd).trans n5.keep
 refine D_E rfl ?_
 refine W_append1 (size := 2) (n := 0) (cap := 8) (g := w3.heap.size) (sv := .slice (some ⟨wd.heap.size, 0, none⟩) 1 1) (ok := BS) (cs := [.slice a f.args.length c, .slice a' g.args.length c']) rfl rfl b5 (by rfl) (by omega) (by decide)
  ⟨_, _, rfl, by omega, by omega, (fun h => by cases h), .inr ⟨_, _, rfl, trivial, n5.blk.cells⟩⟩ (by decide) rfl rfl (by intro u hu; simp at hu; rcases hu with rfl | rfl <;> rfl) (by omega) (by omega) (fun g' cap' e' cur' w6 hg' hb' hs' hle' hm' ht' k6 => ?_)
 have c0 : CS (fun b => okf b ∧ b < w.heap.size) (fun b => okg b ∧ b < w.heap.size) w.heap.size w5 w3.heap.size 8 _ [] _ [] := ⟨by omega, b5, rfl, by decide, (fun c hc => by cases hc), rfl, (fun i c p hc => by simp at hc), fun b hb => by rcases hb with hb | hb <;> exact hb.2⟩
 have k46 : Ext w3 w6 := k45.keep k6 (by simp)
 have c6 := c0.push (by omega) hg' hb' hs' hm' ht' k6 (FLf w6 (k03.trans k46)) (FLg w6 (k03.trans k46)) hlen
 refine AJ ⟨Ext w3, fun _ e => e, k46, ?_⟩
 refine D_R rfl rfl (fun W hW => AC (Ab rfl Z3)) (Ax ?_)
 repeat refine nx rfl ?_
 have hsz := szF_eq f
 refine Bi (α := Nat × Nat × List PP) (fun x => [(7, .slice (some ⟨x.1, 0, none⟩) x.2.2.length x.2.1)]) (CI w (fun b => okf b ∧ b < w.heap.size) (fun b => okg b ∧ b < w.heap.size) 2000001 (cmpF f g)) (fun x => wtSt x.2.2) (g', cap', [(f.args, g.args)]) ⟨rfl, trivial⟩
  ⟨⟨_, _, _, c6⟩, k03.trans k46, by rw [hsp]; simp [cmpSt, Cc], by simp [wtSt]; omega⟩ ?_
 clear c6 c0 k46 k45 hb' ht' k6 FLf FLg b5 n5 n4 hc qa qb e4 e4' kd
 rintro ⟨gb, cap, ps⟩ W f3 hI
 obtain ⟨⟨e, L, rest, hcs⟩, kW, hres, hwt⟩ := hI
 simp only at hcs hres hwt ⊢
 repeat refine nx rfl ?_
 by_cases hp0 : ps.length = 0
 ·have e0 : ps = [] := List.length_eq_zero_iff.1 hp0
  subst e0
  (refine AA (Ab rfl (At rfl ?_)) <;> (refine W_gtr rfl rfl (fun hc => ?_) (fun hc => ?_) <;> try omega))
  repeat first | refine nx rfl ?_ | refine nf rfl ?_
  refine AA (AC (AH rfl ?_))
  repeat refine nx rfl ?_
  exact AQ rfl ⟨congrArg (Value.int .i64) (by rw [hres]; rfl), kW⟩
 obtain ⟨L', ps', v, v', l, m, rfl, rfl, hl, hm, hlm⟩ := hcs.split (by omega)
 obtain ⟨x0, x1, hlt⟩ := hcs.cells
 have hle := hcs.le
 have hlo := hcs.lo
 have hge := hcs.ge
 have hno : ∀ b, (okf b ∧ b < w.heap.size) ∨ (okg b ∧ b < w.heap.size) → b ∉ [gb] := fun b hb hm => by
  have := hlo b hb; simp at hm; omega
 have hlen' := wtSt_len ps'
 rw [C0] at hres
 rw [BM] at hwt
 simp only [List.length_append, List.length_singleton] at hle ⊢
 simp only at hres hwt
 clear hp0
 (refine AA (Ab rfl (At rfl ?_)) <;> (refine W_gtr rfl rfl (fun hc => ?_) (fun hc => ?_) <;> try omega))
 repeat refine nx rfl ?_
 refine AA (Ab rfl (Ab rfl (At rfl (W_sub rfl rfl (by first | exact Ar (by omega) (by omega) | exact A3 (by omega) (by omega) | exact Aq (by omega) (by omega)) ?_))))
 refine Ck (k := ps'.length) rfl rfl (by omega) (by omega) ?_
 refine AC (AK rfl ?_)
 repeat refine nx rfl ?_
 cases l with
 | nil =>
  obtain ⟨a0, c0, rfl⟩ := hl.form
  have hl0 : ([] : List Fml).length = 0 := rfl
  (refine AA (AK rfl (AF rfl (AB rfl (AG rfl (by assumption) ?_)))) <;> refine At rfl ?_ <;> (refine Da rfl rfl (fun hc => ?_) (fun hc => ?_) <;> try omega))
  repeat refine nx rfl ?_
  refine AA (Ab rfl (Ab rfl (At rfl (W_sub rfl rfl (by first | exact Ar (by omega) (by omega) | exact A3 (by omega) (by omega) | exact Aq (by omega) (by omega)) ?_))))
  refine W_slice_h rfl rfl (by omega) (by omega) ?_
  rw [show ((((ps'.length + 1 : Nat) : Int) - 1).toNat) = ps'.length by omega]
  refine AC (Ab rfl ?_)
  repeat refine nx rfl ?_
  refine ⟨(gb, cap, ps'), ⟨rfl, ⟨rfl, trivial⟩, ⟨⟨_, _, _, hcs.cut⟩, kW, ?_, by simp only; omega⟩⟩, by simp only; rw [BM]; omega⟩
  simp only
  rw [hres]
  rfl
 | cons x l =>
  cases m with
  | nil => simp at hlm
  | cons y m =>
   obtain ⟨bx, ox, cx, rfl, hcx, hx, tx⟩ := hl.cons
   obtain ⟨by', oy, cy, rfl, hcy, hy, ty⟩ := hm.cons
   have hlm' : l.length = m.length := by simpa using hlm
   have hsx := szF_eq x
   simp only [szL] at hwt
   (refine AA (AK rfl (AF rfl (AB rfl (AG rfl (by assumption) ?_)))) <;> refine At rfl ?_ <;> (refine Da rfl rfl (fun hc => ?_) (fun hc => ?_) <;> try omega))
   repeat first | refine nx rfl ?_ | refine nf rfl ?_
   refine A5 (.read 0 (.read 1 (.read 2 (.read 3 (.read 4 (.read 5 (.read 6 (.read 7 (.read 8 (.read 9 (.read 10 (.read 11 .done)))))))))))) BC (by kernel_rfl) (fun wd kd ed => ⟨Ext wd, ?_, ?_⟩)
   ·exact Ext.refl _
   have qx0 : ∀ V, Ext wd V → V.cell? ⟨gb, 0 + ps'.length * 2 + 0, none⟩ = some (.slice (some ⟨bx, ox, none⟩) (l.length + 1) cx) := fun V e => (kd.trans e).cell x0 (by simp)
   have qx1 : ∀ V, Ext wd V → V.cell? ⟨gb, 0 + ps'.length * 2 + 1, none⟩ = some (.slice (some ⟨by', oy, none⟩) (m.length + 1) cy) := fun V e => (kd.trans e).cell x1 (by simp)
   refine D_R rfl rfl (fun W hW => AK rfl Z3) (D_R rfl rfl (fun W hW => AF rfl Z3) (D_R rfl rfl (fun W hW => AB rfl Z3) (D_R rfl rfl (fun W hW => AG rfl (qx0 W hW) Z3) ?_)))
   (apply D_R rfl rfl; (intro W hW; refine Ck (k := 0) rfl rfl rfl (by omega) ?_; exact AJ ⟨rfl, rfl, rfl⟩))
   refine D_R rfl rfl (fun W hW => AK rfl Z3) (D_R rfl rfl (fun W hW => AF rfl Z3) (D_R rfl rfl (fun W hW => AB rfl Z3) (D_R rfl rfl (fun W hW => AG rfl (qx1 W hW) Z3) ?_)))
   (apply D_R rfl rfl; (intro W hW; refine Ck (k := 0) rfl rfl rfl (by omega) ?_; exact AJ ⟨rfl, rfl, rfl⟩))
   refine D_R rfl rfl (fun W hW => AC (AK rfl Z3)) (D_R rfl rfl (fun W hW => AC (AK rfl Z3)) (Ax ?_))
   repeat refine nx rfl ?_
   have kA := kd
   clear kd qx0 qx1
   refine A5 (.read 0 (.read 1 (.read 2 (.read 3 (.read 4 (.read 7 (.read 8 (.read 9 (.alt 5 (.read 6 (.alt 10 (.read 11 (.read 12 (.read 13 (.alt 14 (.read 15 (.read 16 (.alt 17 .done .stop))) .stop)))) .stop)) (.alt 10 (.read 11 (.alt 5 (.read 6 (.read 12 (.read 13 (.alt 14 (.read 15 (.read 16 (.alt 17 .done .stop))) .stop)))) .stop)) .stop)))))))))) BC (by kernel_rfl) (fun wd kd ed => ⟨fun _ => True, ?_, ?_⟩)
   ·trivial
   have kAD := kA.trans kd
   have kD : Keep [gb] W wd := kAD.any
   have bd := hcs.blk.keep kAD (by simp)
   have y0 := kAD.cell x0 (by simp)
   have y1 := kAD.cell x1 (by simp)
   refine D_R rfl rfl (fun W hW => AK rfl Z3) (D_R rfl rfl (fun W hW => AK rfl Z3) (D_R rfl rfl (fun W hW => AK rfl Z3) (D_R rfl rfl (fun W hW => AF rfl Z3) (D_R rfl rfl (fun W hW => AB rfl Z3) (D_R rfl rfl (fun W hW => AK rfl Z3) (D_R rfl rfl (fun W hW => AF rfl Z3) (D_R rfl rfl (fun W hW => AB rfl Z3) ?_)))))))
   refine D_A rfl ?_ (D_E rfl ?_)
   ·refine AG rfl y0 ?_
    refine AJ ⟨_, fun _ h => h, trivial, ?_⟩
    ((apply D_R rfl rfl; (intro W hW; refine Dj rfl rfl (by omega) (by omega) ?_; exact AJ ⟨rfl, rfl, rfl⟩)))
    refine D_E rfl ?_
    refine AG rfl y1 ?_
    refine AJ ⟨_, fun _ h => h, trivial, ?_⟩
    refine D_R rfl rfl (fun W hW => Dj rfl rfl (by omega) (by omega) Z3) (D_R rfl rfl (fun W hW => AF rfl Z3) (D_R rfl rfl (fun W hW => AB rfl Z3) ?_))
    refine D_E rfl ?_
    refine Ai rfl rfl rfl bd (by omega) (fun wA pA => ?_)
    refine AJ ⟨_, fun _ h => h, trivial, ?_⟩
    refine D_R rfl rfl (fun W hW => AF rfl Z3) (D_R rfl rfl (fun W hW => AB rfl Z3) ?_)
    refine D_E rfl ?_
    refine Ai rfl rfl rfl pA.blk (by rw [List.length_set]; omega) (fun wB pB => ?_)
    refine AJ ⟨_, fun _ h => h, trivial, ?_⟩
    refine Ax ?_
    repeat refine nx rfl ?_
    have kB : Keep [gb] W wB := (kD.trans pA.keep (by simp)).trans pB.keep (by simp)
    have hB := hcs.put kB pB.blk (tx.keep kB fun b hb hm => hno b (.inl hb) hm) (ty.keep kB fun b hb hm => hno b (.inr hb) hm) hlm'
    have kWB : Ext w wB := kW.keep kB (by simp; exact hcs.ge)
    have px := hx.keep kB fun b hb hm => hno b (.inl hb) hm
    have py := hy.keep kB fun b hb hm => hno b (.inr hb) hm
    obtain ⟨ca, ta, fa, ha1, ha2, _⟩ := cell_blk px.op
    obtain ⟨cb, tb, fb, hb1, hb2, _⟩ := cell_blk py.op
    have huv : fa = (0, 0) ∨ fb = (0, 0) := by
     rcases hUm with hU | hU
     ·obtain ⟨c1, t1, h1, _⟩ := unm_blk (hU wB kWB bx px.1) px.op
      rw [ha1] at h1; cases h1; exact .inl rfl
     ·obtain ⟨c1, t1, h1, _⟩ := unm_blk (hU wB kWB by' py.1) py.op
      rw [hb1] at h1; cases h1; exact .inr rfl
    refine AA (AK rfl (AK rfl ?_))
    refine W_ptrEq (a := ⟨bx, ox + 0 * 5, none⟩) (b := ⟨by', oy + 0 * 5, none⟩) rfl rfl ha1 hb1 huv ha2 hb2 ?_
    refine AJ ?_
    by_cases hab : (⟨bx, ox + 0 * 5, none⟩ : Addr) = ⟨by', oy + 0 * 5, none⟩
    ·rw [decide_eq_true hab]
     repeat refine nx rfl ?_
     obtain ⟨rfl, rfl⟩ : bx = by' ∧ ox = oy := by
      have := Addr.mk.inj hab
      exact ⟨this.1, by have := this.2.1; omega⟩
     have hxy := px.uniq py
     refine ⟨(gb, cap, ps' ++ [(l, m)]), ⟨rfl, ⟨congrArg (fun n => Value.slice (some ⟨gb, 0, none⟩) n cap) (by simp), trivial⟩, ⟨⟨_, _, _, hB⟩, kWB, ?_, by simp only; rw [BM]; simp only; omega⟩⟩, by simp only; rw [BM, BM]; simp only [szL]; omega⟩
     simp only
     rw [C0, hres, cmpL_cons0 ((cmpF_zero x y).2 hxy)]
    ·rw [decide_eq_false hab]
     repeat first | refine nx rfl ?_ | refine nf rfl ?_
     refine AA (AK rfl (AK rfl ?_))
     refine AO (cmpNodes_ok wB bx _ by' _ x y (px.mono fun _ _ => trivial) (py.mono fun _ _ => trivial)) rfl ?_
     rintro _ wC ⟨rfl, kC⟩
     refine AC (AH rfl ?_)
     repeat refine nx rfl ?_
     have kWC := kWB.trans kC
     have hC := hB.ext kC
     have pxC := px.keep kC (by simp)
     have pyC := py.keep kC (by simp)
     generalize hcn2 : cmpN x y = cn2
     have hs2 := cmpF_split x y
     rw [hcn2] at hs2
     by_cases hn2 : cn2 = 0
     rotate_left
     ·(refine AA (AH rfl ?_) <;> (refine W_neq rfl rfl (fun hc => ?_) (fun hc => ?_) <;> try omega))
      repeat refine nx rfl ?_
      refine AA (AH rfl (AC (AH rfl ?_)))
      repeat refine nx rfl ?_
      exact AQ rfl ⟨congrArg (Value.int .i64) (by rw [hres, cmpL, hs2, Dm, Dm, thenI_ne hn2]), kWC⟩
     rw [CX hn2] at hs2
     have hlxy : x.args.length = y.args.length := by
      unfold cmpN at hcn2
      rw [hn2] at hcn2
      simp only [thenI_zero, cmpI_zero] at hcn2
      omega
     (refine AA (AH rfl ?_) <;> (refine W_neq rfl rfl (fun hc => ?_) (fun hc => ?_) <;> try omega))
     repeat first | refine nx rfl ?_ | refine nf rfl ?_
     obtain ⟨vx, cvx, fvx⟩ := pxC.args
     obtain ⟨vy, cvy, fvy⟩ := pyC.args
     obtain ⟨ax, cxx, rfl⟩ := fvx.form
     obtain ⟨ay, cyy, rfl⟩ := fvy.form
     have cvx' : wC.cell? ⟨bx, ox + 0 * 5 + 4, none⟩ = some (.slice ax x.args.length cxx) := cvx
     have cvy' : wC.cell? ⟨by', oy + 0 * 5 + 4, none⟩ = some (.slice ay y.args.length cyy) := cvy
     by_cases hax : 0 < x.args.length
     ·(refine AA (AK rfl (AF rfl (AB rfl (AG rfl (by assumption) ?_)))) <;> refine At rfl ?_ <;> (refine W_gtr rfl rfl (fun hc => ?_) (fun hc => ?_) <;> try omega))
      repeat refine nx rfl ?_
      refine A5 (.read 0 (.read 1 (.read 2 (.read 3 (.read 4 (.read 5 (.read 6 (.read 7 (.read 8 (.read 9 (.alt 10 (.alt 11 (.read 12 .done) .stop) .stop))))))))))) BC (by kernel_rfl) (fun wd kd ed => ⟨Ext w, ?_, ?_⟩)
      ·exact kWC.trans kd
      have qp : ∀ V, Ext w V → V.cell? ⟨bx, ox + 0 * 5 + 4, none⟩ = some (.slice ax x.args.length cxx) := fun V e => cell_same kWC e px.1.2 cvx'
      have qq : ∀ V, Ext w V → V.cell? ⟨by', oy + 0 * 5 + 4, none⟩ = some (.slice ay y.args.length cyy) := fun V e => cell_same kWC e py.1.2 cvy'
      (refine D_R rfl rfl (fun W hW => Ab rfl Z3) (D_R rfl rfl (fun W hW => AK rfl Z3) (D_R rfl rfl (fun W hW => AF rfl Z3) (D_R rfl rfl (fun W hW => AB rfl Z3) (D_R rfl rfl (fun W hW => AG rfl (qp W hW) Z3) (D_R rfl rfl (fun W hW => AK rfl Z3) (D_R rfl rfl (fun W hW => AF rfl Z3) (D_R rfl rfl (fun W hW => AB rfl Z3) (D_R rfl rfl (fun W hW => AG rfl (qq W hW) Z3) ?_)))))))) <;> (apply D_R rfl rfl; (intro W hW; refine Ac (by rfl) (by rfl) ?_; exact Z3)))
      refine D_E rfl ?_
      refine AT (out := [.slice ax x.args.length cxx, .slice ay y.args.length cyy]) rfl (by omega) (by kernel_rfl) (fun wE nE => ?_)
      have kCE := kd.trans nE.keep
      have kWE := kWC.trans kCE
      have hE := hC.ext kCE
      refine AJ ⟨Ext w, fun _ e => e, kWE, ?_⟩
      have hps : (ps' ++ [(l, m)]).length = ps'.length + 1 := by simp
      refine D_E rfl ?_
      refine W_append1 (size := 2) (n := ps'.length + 1) (cap := cap) (g := gb) (sv := .slice (some ⟨wd.heap.size, 0, none⟩) 1 1) (ok := BS) (cs := [.slice ax x.args.length cxx, .slice ay y.args.length cyy]) rfl rfl hE.blk (by rw [List.size_toArray]; exact hE.len) (by omega) hE.mx
       ⟨_, _, rfl, by omega, by omega, (fun h => by cases h), .inr ⟨_, _, rfl, trivial, nE.blk.cells⟩⟩ (by decide) rfl rfl (by intro u hu; simp at hu; rcases hu with rfl | rfl <;> rfl) (by omega) (by omega) (fun g2 cap2 e2 cur2 wF hg2 hb2' hs2' hle2 hm2 ht2 kF => ?_)
      have hF := hE.push kWE.size hg2 hb2' hs2' hm2 (by rw [hps]; simpa using ht2) kF (fvx.keep (kCE.any.trans kF (by simp)) fun b hb hm => hno b (.inl hb) hm) (fvy.keep (kCE.any.trans kF (by simp)) fun b hb hm => hno b (.inr hb) hm) hlxy
      have kWF := kWE.keep kF (by simp; exact hge)
      refine AJ ⟨Ext w, fun _ e => e, kWF, ?_⟩
      refine D_R rfl rfl (fun W hW => AC (Ab rfl Z3)) (Ax ?_)
      repeat refine nx rfl ?_
      refine ⟨(g2, cap2, ps' ++ [(l, m)] ++ [(x.args, y.args)]), ⟨rfl, ⟨congrArg (fun n => Value.slice (some ⟨g2, 0, none⟩) n cap2) (by simp), trivial⟩, ⟨⟨_, _, _, hF⟩, kWF, ?_, by simp only; rw [BM, BM]; simp only; omega⟩⟩, by simp only; rw [BM, BM, BM]; simp only [szL]; omega⟩
      simp only
      rw [C0, C0, hres, cmpL, hs2, Dm]
     ·(refine AA (AK rfl (AF rfl (AB rfl (AG rfl (by assumption) ?_)))) <;> refine At rfl ?_ <;> (refine W_gtr rfl rfl (fun hc => ?_) (fun hc => ?_) <;> try omega))
      repeat first | refine nx rfl ?_ | refine nf rfl ?_
      have ex : x.args = [] := List.length_eq_zero_iff.1 (by omega)
      have ez : cmpF x y = 0 := by rw [hs2, ex]; cases y.args <;> rfl
      refine ⟨(gb, cap, ps' ++ [(l, m)]), ⟨rfl, ⟨congrArg (fun n => Value.slice (some ⟨gb, 0, none⟩) n cap) (by simp), trivial⟩, ⟨⟨_, _, _, hC⟩, kWC, ?_, by simp only; rw [BM]; simp only; omega⟩⟩, by simp only; rw [BM, BM]; simp only [szL]; omega⟩
      simp only
      rw [C0, hres, cmpL_cons0 ez]
   ·refine AG rfl y1 ?_
    refine AJ ⟨_, fun _ h => h, trivial, ?_⟩
    ((apply D_R rfl rfl; (intro W hW; refine Dj rfl rfl (by omega) (by omega) ?_; exact AJ ⟨rfl, rfl, rfl⟩)))
    refine D_E rfl ?_
    refine AG rfl y0 ?_
    refine AJ ⟨_, fun _ h => h, trivial, ?_⟩
    refine D_R rfl rfl (fun W hW => Dj rfl rfl (by omega) (by omega) Z3) (D_R rfl rfl (fun W hW => AF rfl Z3) (D_R rfl rfl (fun W hW => AB rfl Z3) ?_))
    refine D_E rfl ?_
    refine Ai rfl rfl rfl bd (by omega) (fun wA pA => ?_)
    refine AJ ⟨_, fun _ h => h, trivial, ?_⟩
    refine D_R rfl rfl (fun W hW => AF rfl Z3) (D_R rfl rfl (fun W hW => AB rfl Z3) ?_)
    refine D_E rfl ?_
    refine Ai rfl rfl rfl pA.blk (by rw [List.length_set]; omega) (fun wB pB => ?_)
    refine AJ ⟨_, fun _ h => h, trivial, ?_⟩
    refine Ax ?_
    repeat refine nx rfl ?_
    have kB : Keep [gb] W wB := (kD.trans pA.keep (by simp)).trans pB.keep (by simp)
    have hB := hcs.put kB pB.blk (tx.keep kB fun b hb hm => hno b (.inl hb) hm) (ty.keep kB fun b hb hm => hno b (.inr hb) hm) hlm'
    have kWB : Ext w wB := kW.keep kB (by simp; exact hcs.ge)
    have px := hx.keep kB fun b hb hm => hno b (.inl hb) hm
    have py := hy.keep kB fun b hb hm => hno b (.inr hb) hm
    obtain ⟨ca, ta, fa, ha1, ha2, _⟩ := cell_blk px.op
    obtain ⟨cb, tb, fb, hb1, hb2, _⟩ := cell_blk py.op
    have huv : fa = (0, 0) ∨ fb = (0, 0) := by
     rcases hUm with hU | hU
     ·obtain ⟨c1, t1, h1, _⟩ := unm_blk (hU wB kWB bx px.1) px.op
      rw [ha1] at h1; cases h1; exact .inl rfl
     ·obtain ⟨c1, t1, h1, _⟩ := unm_blk (hU wB kWB by' py.1) py.op
      rw [hb1] at h1; cases h1; exact .inr rfl
    refine AA (AK rfl (AK rfl ?_))
    refine W_ptrEq (a := ⟨bx, ox + 0 * 5, none⟩) (b := ⟨by', oy + 0 * 5, none⟩) rfl rfl ha1 hb1 huv ha2 hb2 ?_
    refine AJ ?_
    by_cases hab : (⟨bx, ox + 0 * 5, none⟩ : Addr) = ⟨by', oy + 0 * 5, none⟩
    ·rw [decide_eq_true hab]
     repeat refine nx rfl ?_
     obtain ⟨rfl, rfl⟩ : bx = by' ∧ ox = oy := by
      have := Addr.mk.inj hab
      exact ⟨this.1, by have := this.2.1; omega⟩
     have hxy := px.uniq py
     refine ⟨(gb, cap, ps' ++ [(l, m)]), ⟨rfl, ⟨congrArg (fun n => Value.slice (some ⟨gb, 0, none⟩) n cap) (by simp), trivial⟩, ⟨⟨_, _, _, hB⟩, kWB, ?_, by simp only; rw [BM]; simp only; omega⟩⟩, by simp only; rw [BM, BM]; simp only [szL]; omega⟩
     simp only
     rw [C0, hres, cmpL_cons0 ((cmpF_zero x y).2 hxy)]
    ·rw [decide_eq_false hab]
     repeat first | refine nx rfl ?_ | refine nf rfl ?_
     refine AA (AK rfl (AK rfl ?_))
     refine AO (cmpNodes_ok wB bx _ by' _ x y (px.mono fun _ _ => trivial) (py.mono fun _ _ => trivial)) rfl ?_
     rintro _ wC ⟨rfl, kC⟩
     refine AC (AH rfl ?_)
     repeat refine nx rfl ?_
     have kWC := kWB.trans kC
     have hC := hB.ext kC
     have pxC := px.keep kC (by simp)
     have pyC := py.keep kC (by simp)
     generalize hcn2 : cmpN x y = cn2
     have hs2 := cmpF_split x y
     rw [hcn2] at hs2
     by_cases hn2 : cn2 = 0
     rotate_left
     ·(refine AA (AH rfl ?_) <;> (refine W_neq rfl rfl (fun hc => ?_) (fun hc => ?_) <;> try omega))
      repeat refine nx rfl ?_
      refine AA (AH rfl (AC (AH rfl ?_)))
      repeat refine nx rfl ?_
      exact AQ rfl ⟨congrArg (Value.int .i64) (by rw [hres, cmpL, hs2, Dm, Dm, thenI_ne hn2]), kWC⟩
     rw [CX hn2] at hs2
     have hlxy : x.args.length = y.args.length := by
      unfold cmpN at hcn2
      rw [hn2] at hcn2
      simp only [thenI_zero, cmpI_zero] at hcn2
      omega
     (refine AA (AH rfl ?_) <;> (refine W_neq rfl rfl (fun hc => ?_) (fun hc => ?_) <;> try omega))
     repeat first | refine nx rfl ?_ | refine nf rfl ?_
     obtain ⟨vx, cvx, fvx⟩ := pxC.args
     obtain ⟨vy, cvy, fvy⟩ := pyC.args
     obtain ⟨ax, cxx, rfl⟩ := fvx.form
     obtain ⟨ay, cyy, rfl⟩ := fvy.form
     have cvx' : wC.cell? ⟨bx, ox + 0 * 5 + 4, none⟩ = some (.slice ax x.args.length cxx) := cvx
     have cvy' : wC.cell? ⟨by', oy + 0 * 5 + 4, none⟩ = some (.slice ay y.args.length cyy) := cvy
     by_cases hax : 0 < x.args.length
     ·(refine AA (AK rfl (AF rfl (AB rfl (AG rfl (by assumption) ?_)))) <;> refine At rfl ?_ <;> (refine W_gtr rfl rfl (fun hc => ?_) (fun hc => ?_) <;> try omega))
      repeat refine nx rfl ?_
      refine A5 (.read 0 (.read 1 (.read 2 (.read 3 (.read 4 (.read 5 (.read 6 (.read 7 (.read 8 (.read 9 (.alt 10 (.alt 11 (.read 12 .done) .stop) .stop))))))))))) BC (by kernel_rfl) (fun wd kd ed => ⟨Ext w, ?_, ?_⟩)
      ·exact kWC.trans kd
      have qp : ∀ V, Ext w V → V.cell? ⟨bx, ox + 0 * 5 + 4, none⟩ = some (.slice ax x.args.length cxx) := fun V e => cell_same kWC e px.1.2 cvx'
      have qq : ∀ V, Ext w V → V.cell? ⟨by', oy + 0 * 5 + 4, none⟩ = some (.slice ay y.args.length cyy) := fun V e => cell_same kWC e py.1.2 cvy'
      (refine D_R rfl rfl (fun W hW => Ab rfl Z3) (D_R rfl rfl (fun W hW => AK rfl Z3) (D_R rfl rfl (fun W hW => AF rfl Z3) (D_R rfl rfl (fun W hW => AB rfl Z3) (D_R rfl rfl (fun W hW => AG rfl (qp W hW) Z3) (D_R rfl rfl (fun W hW => AK rfl Z3) (D_R rfl rfl (fun W hW => AF rfl Z3) (D_R rfl rfl (fun W hW => AB rfl Z3) (D_R rfl rfl (fun W hW => AG rfl (qq W hW) Z3) ?_)))))))) <;> (apply D_R rfl rfl; (intro W hW; refine Ac (by rfl) (by rfl) ?_; exact Z3)))
      refine D_E rfl ?_
      refine AT (out := [.slice ax x.args.length cxx, .slice ay y.args.length cyy]) rfl (by omega) (by kernel_rfl) (fun wE nE => ?_)
      have kCE := kd.trans nE.keep
      have kWE := kWC.trans kCE
      have hE := hC.ext kCE
      refine AJ ⟨Ext w, fun _ e => e, kWE, ?_⟩
      have hps : (ps' ++ [(l, m)]).length = ps'.length + 1 := by simp
      refine D_E rfl ?_
      refine W_append1 (size := 2) (n := ps'.length + 1) (cap := cap) (g := gb) (sv := .slice (some ⟨wd.heap.size, 0, none⟩) 1 1) (ok := BS) (cs := [.slice ax x.args.length cxx, .slice ay y.args.length cyy]) rfl rfl hE.blk (by rw [List.size_toArray]; exact hE.len) (by omega) hE.mx
       ⟨_, _, rfl, by omega, by omega, (fun h => by cases h), .inr ⟨_, _, rfl, trivial, nE.blk.cells⟩⟩ (by decide) rfl rfl (by intro u hu; simp at hu; rcases hu with rfl | rfl <;> rfl) (by omega) (by omega) (fun g2 cap2 e2 cur2 wF hg2 hb2' hs2' hle2 hm2 ht2 kF => ?_)
      have hF := hE.push kWE.size hg2 hb2' hs2' hm2 (by rw [hps]; simpa using ht2) kF (fvx.keep (kCE.any.trans kF (by simp)) fun b hb hm => hno b (.inl hb) hm) (fvy.keep (kCE.any.trans kF (by simp)) fun b hb hm => hno b (.inr hb) hm) hlxy
      have kWF := kWE.keep kF (by simp; exact hge)
      refine AJ ⟨Ext w, fun _ e => e, kWF, ?_⟩
      refine D_R rfl rfl (fun W hW => AC (Ab rfl Z3)) (Ax ?_)
      repeat refine nx rfl ?_
      refine ⟨(g2, cap2, ps' ++ [(l, m)] ++ [(x.args, y.args)]), ⟨rfl, ⟨congrArg (fun n => Value.slice (some ⟨g2, 0, none⟩) n cap2) (by simp), trivial⟩, ⟨⟨_, _, _, hF⟩, kWF, ?_, by simp only; rw [BM, BM]; simp only; omega⟩⟩, by simp only; rw [BM, BM, BM]; simp only [szL]; omega⟩
      simp only
      rw [C0, C0, hres, cmpL, hs2, Dm]
     ·(refine AA (AK rfl (AF rfl (AB rfl (AG rfl (by assumption) ?_)))) <;> refine At rfl ?_ <;> (refine W_gtr rfl rfl (fun hc => ?_) (fun hc => ?_) <;> try omega))
      repeat first | refine nx rfl ?_ | refine nf rfl ?_
      have ex : x.args = [] := List.length_eq_zero_iff.1 (by omega)
      have ez : cmpF x y = 0 := by rw [hs2, ex]; cases y.args <;> rfl
      refine ⟨(gb, cap, ps' ++ [(l, m)]), ⟨rfl, ⟨congrArg (fun n => Value.slice (some ⟨gb, 0, none⟩) n cap) (by simp), trivial⟩, ⟨⟨_, _, _, hC⟩, kWC, ?_, by simp only; rw [BM]; simp only; omega⟩⟩, by simp only; rw [BM, BM]; simp only [szL]; omega⟩
      simp only
      rw [C0, hres, cmpL_cons0 ez]
end Go.Proofs.YtfcgdbmoncnibaaGreatDoor
namespace Go.Proofs.YtfcgdbmoncnibaaGreatDoor
open Go.RowKit
set_option linter.unusedVariables false
variable {mk : Prop} [MK mk]
theorem gap_ok (t : List UInt8) (w : World) (hl : t.length ≤ 1000000) : Fn Tryz.prog 99 [AI t] w fun v w' => v = .int .i64 (gapW t 0 : Int) ∧ w' = w := by
 refine Af Tryz.func99 rfl Tryz.ntmps99 (Nat.le_of_ble_eq_true rfl) (by kernel_rfl) ?_
 repeat refine nx rfl ?_
 refine AA (AC (AH rfl ?_))
 repeat refine nx rfl ?_
 refine AA (AC (AH rfl ?_))
 repeat refine nx rfl ?_
 refine Bi (α := Nat) (fun a => [(0, AI t), (3, .int .i64 (a : Int))]) (fun a w1 => a ≤ t.length ∧ gapW t a = gapW t 0 ∧ w1 = w) (fun a => t.length - a) 0 ⟨rfl, rfl, trivial⟩ ⟨by omega, rfl, rfl⟩ ?_
 rintro a w1 f1 ⟨ha, hg, rfl⟩
 repeat refine nx rfl ?_
 by_cases hlt : a < t.length
 ·have hc0 : t[a]? = some t[a] := List.getElem?_eq_getElem hlt
  generalize t[a] = c at hc0
  rw [gapW_step hc0] at hg
  refine AA (AH rfl (AX rfl (BD rfl (BX rfl rfl (by omega) ?_))))
  repeat refine nx rfl ?_
  by_cases h37 : c.toNat = 37
  ·rw [if_pos h37] at hg
   (refine AA (AX rfl (AH rfl (Bk rfl rfl (by assumption) ?_))) <;> refine BQ rfl rfl (by omega) ?_)
   repeat refine nx rfl ?_
   have hle := Bs (p := BN) (t := t) (a := a) (by omega)
   have hst := Bj (p := BN) hc0 (by simp [BN, h37])
   have hge := B0 BN t (a + 1)
   refine Bi (α := Nat) (fun j => [(0, AI t), (3, .int .i64 (j : Int))]) (fun j w2 => j ≤ t.length ∧ Al BN t j = Al BN t a ∧ w2 = w1) (fun j => t.length - j) a ⟨rfl, rfl, trivial⟩ ⟨by omega, rfl, rfl⟩ ?_
   rintro j w2 f2 ⟨hj, hw, rfl⟩
   repeat refine nx rfl ?_
   by_cases hjl : j < t.length
   ·have hcj : t[j]? = some t[j] := List.getElem?_eq_getElem hjl
    generalize t[j] = d at hcj
    by_cases h10 : d.toNat = 10
    ·(refine AA (AH rfl (AX rfl (BD rfl (BX rfl rfl (by omega) (AD rfl (AE rfl (AX rfl (AE rfl (AH rfl (AE rfl (Bk rfl rfl (by assumption) ?_))))))))))) <;> refine AE rfl (Dh rfl rfl (by omega) (AN rfl (AD rfl ?_))))
     repeat first | refine nx rfl ?_ | refine nf rfl ?_
     have hjw := whileB_stop (p := BN) hcj (by simp [BN, h10])
     exact ⟨j, ⟨rfl, ⟨rfl, rfl, trivial⟩, ⟨hj, by rw [← hg, ← hw, hjw], rfl⟩⟩, by omega⟩
    ·(refine AA (AH rfl (AX rfl (BD rfl (BX rfl rfl (by omega) (AD rfl (AE rfl (AX rfl (AE rfl (AH rfl (AE rfl (Bk rfl rfl (by assumption) ?_))))))))))) <;> refine AE rfl (W_neqT rfl rfl (by omega) (AN rfl (AD rfl ?_))))
     repeat refine nx rfl ?_
     (refine AA (AH rfl (Bq rfl rfl (by first | exact Ar (by omega) (by omega) | exact A3 (by omega) (by omega) | exact Aq (by omega) (by omega)) ?_)) <;> refine AC (AH rfl ?_))
     repeat refine nx rfl ?_
     have hjw := Bj (p := BN) hcj (by simp [BN, h10])
     refine ⟨j + 1, ⟨rfl, ⟨rfl, ?_, trivial⟩, ⟨by omega, by rw [← hw, hjw], rfl⟩⟩, by omega⟩
     show Value.int .i64 ((j : Int) + 1) = _
     rw [Int.natCast_add]; rfl
   ·refine AA (AH rfl (AX rfl (BD rfl (Bb rfl rfl (by omega) (AD rfl (AM rfl (AM rfl (AM rfl (AM rfl (AS rfl (AD rfl ?_)))))))))))
    repeat first | refine nx rfl ?_ | refine nf rfl ?_
    have hjw := whileB_end (p := BN) (t := t) (a := j) (by omega)
    exact ⟨j, ⟨rfl, ⟨rfl, rfl, trivial⟩, ⟨hj, by rw [← hg, ← hw, hjw], rfl⟩⟩, by omega⟩
  ·rw [if_neg h37] at hg
   (refine AA (AX rfl (AH rfl (Bk rfl rfl (by assumption) ?_))) <;> refine BA rfl rfl (by omega) ?_)
   repeat first | refine nx rfl ?_ | refine nf rfl ?_
   refine AA (AX rfl (AH rfl (Bk rfl rfl (by assumption) ?_)))
   refine AO (blankB_ok c _) rfl ?_
   rintro v w2 ⟨rfl, rfl⟩
   refine AJ ?_
   cases hb : isBlank c with
   | true =>
    rw [if_pos hb] at hg
    repeat refine nx rfl ?_
    (refine AA (AH rfl (Bq rfl rfl (by first | exact Ar (by omega) (by omega) | exact A3 (by omega) (by omega) | exact Aq (by omega) (by omega)) ?_)) <;> refine AC (AH rfl ?_))
    repeat refine nx rfl ?_
    refine ⟨a + 1, ⟨rfl, ⟨rfl, ?_, trivial⟩, ⟨by omega, hg, rfl⟩⟩, by omega⟩
    show Value.int .i64 ((a : Int) + 1) = _
    rw [Int.natCast_add]; rfl
   | false =>
    rw [hb, if_neg (by simp)] at hg
    repeat first | refine nx rfl ?_ | refine nf rfl ?_
    refine AA (AH rfl (AC (AH rfl ?_)))
    repeat refine nx rfl ?_
    exact AQ rfl ⟨by rw [← hg]; rfl, rfl⟩
 ·obtain rfl : a = t.length := by omega
  refine AA (AH rfl (AX rfl (BD rfl (Bb rfl rfl (by omega) ?_))))
  repeat first | refine nx rfl ?_ | refine nf rfl ?_
  refine AA (AH rfl (AC (AH rfl ?_)))
  repeat refine nx rfl ?_
  exact AQ rfl ⟨by rw [← hg, gapW_end]; rfl, rfl⟩
end Go.Proofs.YtfcgdbmoncnibaaGreatDoor
namespace Go.Proofs.YtfcgdbmoncnibaaGreatDoor
open Go.RowKit
set_option linter.unusedVariables false
variable {mk : Prop} [MK mk]
theorem rlow_ok : Test 137 BP := by
 intro c w
 refine Af Tryz.func137 rfl Tryz.ntmps137 (Nat.le_of_ble_eq_true rfl) (by kernel_rfl) ?_
 repeat refine nx rfl ?_
 refine AA (AC (AD rfl ?_))
 repeat refine nx rfl ?_
 (refine AA (AH rfl ?_) <;> (refine W_geq rfl rfl (fun hc => ?_) (fun hc => ?_) <;> try omega) <;> refine AD rfl ?_ <;> (first | refine AM rfl ?_ | (refine AE rfl ?_; refine AH rfl ?_)) <;> (first | refine AM rfl ?_ | (refine AE rfl ?_; (refine W_leq rfl rfl (fun hc => ?_) (fun hc => ?_) <;> try omega))) <;> ((first | refine AN rfl ?_ | refine AS rfl ?_); refine AD rfl ?_) <;> refine AC (AD rfl (AJ ?_)))
 all_goals
  repeat refine nx rfl ?_
  exact AQ rfl ⟨by simp [BP, upd, Nat.beq]; omega, rfl⟩
theorem rbig_ok : Test 134 isUp := by
 intro c w
 refine Af Tryz.func134 rfl Tryz.ntmps134 (Nat.le_of_ble_eq_true rfl) (by kernel_rfl) ?_
 repeat refine nx rfl ?_
 refine AA (AC (AD rfl ?_))
 repeat refine nx rfl ?_
 (refine AA (AH rfl ?_) <;> (refine W_geq rfl rfl (fun hc => ?_) (fun hc => ?_) <;> try omega) <;> refine AD rfl ?_ <;> (first | refine AM rfl ?_ | (refine AE rfl ?_; refine AH rfl ?_)) <;> (first | refine AM rfl ?_ | (refine AE rfl ?_; (refine W_leq rfl rfl (fun hc => ?_) (fun hc => ?_) <;> try omega))) <;> ((first | refine AN rfl ?_ | refine AS rfl ?_); refine AD rfl ?_) <;> refine AC (AD rfl (AJ ?_)))
 all_goals
  repeat refine nx rfl ?_
  exact AQ rfl ⟨by simp [isUp, upd, Nat.beq]; omega, rfl⟩
theorem rdig_ok : Test 136 As := by
 intro c w
 refine Af Tryz.func136 rfl Tryz.ntmps136 (Nat.le_of_ble_eq_true rfl) (by kernel_rfl) ?_
 repeat refine nx rfl ?_
 refine AA (AC (AD rfl ?_))
 repeat refine nx rfl ?_
 (refine AA (AH rfl ?_) <;> (refine W_geq rfl rfl (fun hc => ?_) (fun hc => ?_) <;> try omega) <;> refine AD rfl ?_ <;> (first | refine AM rfl ?_ | (refine AE rfl ?_; refine AH rfl ?_)) <;> (first | refine AM rfl ?_ | (refine AE rfl ?_; (refine W_leq rfl rfl (fun hc => ?_) (fun hc => ?_) <;> try omega))) <;> ((first | refine AN rfl ?_ | refine AS rfl ?_); refine AD rfl ?_) <;> refine AC (AD rfl (AJ ?_)))
 all_goals
  repeat refine nx rfl ?_
  exact AQ rfl ⟨by simp [As, upd, Nat.beq]; omega, rfl⟩
theorem rpart_ok : Test 135 BG := by
 intro c w
 refine Af Tryz.func135 rfl Tryz.ntmps135 (Nat.le_of_ble_eq_true rfl) (by kernel_rfl) ?_
 repeat refine nx rfl ?_
 refine AA (AC (AD rfl ?_))
 repeat refine nx rfl ?_
 refine AA (AH rfl ?_)
 refine AO (rlow_ok c w) rfl ?_
 rintro v w' ⟨rfl, rfl⟩
 cases hs : BP c with
 | true =>
  refine AD rfl (AM rfl (AM rfl (AN rfl (AD rfl (AD rfl (AM rfl (AM rfl (AN rfl (AD rfl (AC (AD rfl (AJ ?_))))))))))))
  all_goals
   repeat refine nx rfl ?_
   exact AQ rfl ⟨by simp [BG, hs, upd, Nat.beq], rfl⟩
 | false =>
  refine AD rfl (AE rfl (AH rfl ?_))
  refine AE rfl ?_
  refine AO (rdig_ok c _) rfl ?_
  rintro v w' ⟨rfl, rfl⟩
  cases hd : As c with
  | true =>
   refine AS rfl (AD rfl (AD rfl (AM rfl (AM rfl (AN rfl (AD rfl (AC (AD rfl (AJ ?_)))))))))
   all_goals
    repeat refine nx rfl ?_
    exact AQ rfl ⟨by simp [BG, hs, hd, upd, Nat.beq], rfl⟩
  | false =>
   (refine AS rfl (AD rfl (AD rfl (AE rfl (AH rfl ?_)))) <;> (refine AE rfl ?_; (refine Da rfl rfl (fun hc => ?_) (fun hc => ?_) <;> try omega)) <;> refine AS rfl (AD rfl (AC (AD rfl (AJ ?_)))))
   all_goals
    repeat refine nx rfl ?_
    exact AQ rfl ⟨by simp [BG, hs, hd, upd, Nat.beq]; omega, rfl⟩
theorem rsymbols_ok (w : World) : Fn Tryz.prog 156 [] w fun v w' => v = .slice (some ⟨w.heap.size, 0, none⟩) 15 15 ∧ Ext w w' ∧ Cells w' w.heap.size 0 symC := by
 refine Af Tryz.func156 rfl Tryz.ntmps156 (Nat.le_of_ble_eq_true rfl) (by kernel_rfl) ?_
 repeat refine nx rfl ?_
 refine AA (AC (Ab rfl ?_))
 repeat refine nx rfl ?_
 refine AA ?_
 refine W_buildSlice1 (out := symC) rfl (by omega) rfl (by kernel_rfl) (fun w2 n2 => ?_)
 refine AC (Ab rfl ?_)
 repeat refine nx rfl ?_
 exact AQ rfl ⟨rfl, n2.keep, n2.blk.cells⟩
def symW (u : List UInt8) : List UInt8 := (symsL.find? (Bv u)).getD []
theorem rsymbol_ok (u : List UInt8) (w : World) : Fn Tryz.prog 138 [AI u] w fun v w' => v = AI (symW u) ∧ Ext w w' := by
 refine Af Tryz.func138 rfl Tryz.ntmps138 (Nat.le_of_ble_eq_true rfl) (by kernel_rfl) ?_
 repeat refine nx rfl ?_
 refine AA (AC (AX rfl ?_))
 repeat refine nx rfl ?_
 refine AA ?_
 refine AO (rsymbols_ok w) rfl ?_
 rintro v w1 ⟨rfl, k1, hC⟩
 refine AC (Ab rfl ?_)
 repeat refine nx rfl ?_
 refine AA (AC (AH rfl ?_))
 repeat refine nx rfl ?_
 refine Bi (α := Nat) (fun k => [(0, AI u), (3, .slice (some ⟨w.heap.size, 0, none⟩) 15 15), (4, .int .i64 (k : Int))]) (fun k w2 => k ≤ 15 ∧ Ext w1 w2 ∧ symsL.find? (Bv u) = (symsL.drop k).find? (Bv u)) (fun k => 15 - k) 0 ⟨rfl, rfl, rfl, trivial⟩ ⟨by omega, Ext.refl _, rfl⟩ ?_
 rintro k w2 f' ⟨hk, k2, hf⟩
 repeat refine nx rfl ?_
 by_cases hlt : k < 15
 ·obtain ⟨y, hy⟩ : ∃ y, symsL[k]? = some y := ⟨_, List.getElem?_eq_getElem (by show k < 15; exact hlt)⟩
  have hyc : symC[k]? = some (AI y) := by unfold symC; rw [List.getElem?_map, hy]; rfl
  rw [find_step hy] at hf
  refine AA (AH rfl (Ab rfl (At rfl (BX rfl rfl (by omega) ?_))))
  repeat refine nx rfl ?_
  refine A5 (.read 0 (.read 1 (.read 2 (.read 3 (.read 4 (.read 5 (.read 6 (.read 7 (.read 8 (.read 9 (.read 10 (.read 11 (.read 12 (.read 13 (.read 14 (.read 15 (.read 16 (.read 17 (.read 18 (.read 19 (.read 20 (.read 21 .done)))))))))))))))))))))) BC (by kernel_rfl) (fun wd kd ed => ⟨fun W => W = wd, ?_, ?_⟩)
  ·rfl
  have hcell : wd.cell? ⟨w.heap.size, 0 + k, none⟩ = some (AI y) := ((hC.keep k2 (by simp)).keep kd (by simp)) k _ hyc
  by_cases hl : y.length ≤ u.length
  ·by_cases he : u.take y.length = y
   ·have hp : Bv u y = true := by simp [Bv, hl, he]
    ((apply D_R rfl rfl; (intro W hW; subst hW; refine AX rfl ?_; exact Z3)) <;> (apply D_R rfl rfl; (intro W hW; subst hW; refine BD rfl ?_; exact Z3)) <;> (apply D_R rfl rfl; (intro W hW; subst hW; refine Ab rfl ?_; exact Z3)) <;> (apply D_R rfl rfl; (intro W hW; subst hW; refine AH rfl ?_; exact Z3)) <;> (apply D_R rfl rfl; (intro W hW; subst hW; refine W_idx1 rfl rfl rfl (by omega) ?_; exact Z3)) <;> (apply D_R rfl rfl; (intro W hW; subst hW; refine AG rfl (by assumption) ?_; exact Z3)) <;> (apply D_R rfl rfl; (intro W hW; subst hW; refine BD rfl ?_; exact Z3)) <;> refine D_geqT rfl rfl rfl rfl (by omega) ?_ <;> (apply D_R rfl rfl; (intro W hW; subst hW; refine AD rfl ?_; exact Z3)) <;> (apply D_R rfl rfl; (intro W hW; subst hW; (refine AE rfl ?_; refine AX rfl ?_); exact Z3)) <;> (apply D_R rfl rfl; (intro W hW; subst hW; (refine AE rfl ?_; refine Ab rfl ?_); exact Z3)) <;> (apply D_R rfl rfl; (intro W hW; subst hW; (refine AE rfl ?_; refine AH rfl ?_); exact Z3)) <;> (apply D_R rfl rfl; (intro W hW; subst hW; (refine AE rfl ?_; refine W_idx1 rfl rfl rfl (by omega) ?_); exact Z3)) <;> (apply D_R rfl rfl; (intro W hW; subst hW; (refine AE rfl ?_; refine AG rfl (by assumption) ?_); exact Z3)) <;> (apply D_R rfl rfl; (intro W hW; subst hW; (refine AE rfl ?_; refine BD rfl ?_); exact Z3)) <;> (apply D_R rfl rfl; (intro W hW; subst hW; (refine AE rfl ?_; refine Cy rfl rfl (by omega) ?_); exact Z3)) <;> (apply D_R rfl rfl; (intro W hW; subst hW; (refine AE rfl ?_; refine Ab rfl ?_); exact Z3)) <;> (apply D_R rfl rfl; (intro W hW; subst hW; (refine AE rfl ?_; refine AH rfl ?_); exact Z3)) <;> (apply D_R rfl rfl; (intro W hW; subst hW; (refine AE rfl ?_; refine W_idx1 rfl rfl rfl (by omega) ?_); exact Z3)) <;> (apply D_R rfl rfl; (intro W hW; subst hW; (refine AE rfl ?_; refine AG rfl (by assumption) ?_); exact Z3)) <;> (refine D_seql rfl rfl rfl rfl (fun hc => ?_) (fun hc => ?_)) <;> (apply D_R rfl rfl; (intro W hW; subst hW; (refine AN rfl ?_; refine AD rfl ?_); exact Z3)) <;> refine Ax ?_)
    ·repeat refine nx rfl ?_
     have hcell' : wd.cell? ⟨w.heap.size, 0 + k, none⟩ = some (AI y) := hcell
     (refine AA (Ab rfl (AH rfl (W_idx1 rfl rfl rfl (by omega) (AG rfl (by assumption) ?_)))) <;> refine AC (AX rfl ?_))
     repeat refine nx rfl ?_
     rw [hp, if_pos rfl] at hf
     exact AQ rfl ⟨by unfold symW; rw [hf]; rfl, (k1.trans k2).trans kd⟩
    ·exact absurd he (by assumption)
   ·have hp : Bv u y = false := by simp [Bv, he]
    rw [hp, if_neg (by simp)] at hf
    ((apply D_R rfl rfl; (intro W hW; subst hW; refine AX rfl ?_; exact Z3)) <;> (apply D_R rfl rfl; (intro W hW; subst hW; refine BD rfl ?_; exact Z3)) <;> (apply D_R rfl rfl; (intro W hW; subst hW; refine Ab rfl ?_; exact Z3)) <;> (apply D_R rfl rfl; (intro W hW; subst hW; refine AH rfl ?_; exact Z3)) <;> (apply D_R rfl rfl; (intro W hW; subst hW; refine W_idx1 rfl rfl rfl (by omega) ?_; exact Z3)) <;> (apply D_R rfl rfl; (intro W hW; subst hW; refine AG rfl (by assumption) ?_; exact Z3)) <;> (apply D_R rfl rfl; (intro W hW; subst hW; refine BD rfl ?_; exact Z3)) <;> refine D_geqT rfl rfl rfl rfl (by omega) ?_ <;> (apply D_R rfl rfl; (intro W hW; subst hW; refine AD rfl ?_; exact Z3)) <;> (apply D_R rfl rfl; (intro W hW; subst hW; (refine AE rfl ?_; refine AX rfl ?_); exact Z3)) <;> (apply D_R rfl rfl; (intro W hW; subst hW; (refine AE rfl ?_; refine Ab rfl ?_); exact Z3)) <;> (apply D_R rfl rfl; (intro W hW; subst hW; (refine AE rfl ?_; refine AH rfl ?_); exact Z3)) <;> (apply D_R rfl rfl; (intro W hW; subst hW; (refine AE rfl ?_; refine W_idx1 rfl rfl rfl (by omega) ?_); exact Z3)) <;> (apply D_R rfl rfl; (intro W hW; subst hW; (refine AE rfl ?_; refine AG rfl (by assumption) ?_); exact Z3)) <;> (apply D_R rfl rfl; (intro W hW; subst hW; (refine AE rfl ?_; refine BD rfl ?_); exact Z3)) <;> (apply D_R rfl rfl; (intro W hW; subst hW; (refine AE rfl ?_; refine Cy rfl rfl (by omega) ?_); exact Z3)) <;> (apply D_R rfl rfl; (intro W hW; subst hW; (refine AE rfl ?_; refine Ab rfl ?_); exact Z3)) <;> (apply D_R rfl rfl; (intro W hW; subst hW; (refine AE rfl ?_; refine AH rfl ?_); exact Z3)) <;> (apply D_R rfl rfl; (intro W hW; subst hW; (refine AE rfl ?_; refine W_idx1 rfl rfl rfl (by omega) ?_); exact Z3)) <;> (apply D_R rfl rfl; (intro W hW; subst hW; (refine AE rfl ?_; refine AG rfl (by assumption) ?_); exact Z3)) <;> (refine D_seql rfl rfl rfl rfl (fun hc => ?_) (fun hc => ?_)) <;> (apply D_R rfl rfl; (intro W hW; subst hW; (refine AN rfl ?_; refine AD rfl ?_); exact Z3)) <;> refine Ax ?_)
    ·exact absurd (by assumption) he
    ·repeat first | refine nx rfl ?_ | refine nf rfl ?_
     (refine AA (AH rfl (Bq rfl rfl (by first | exact Ar (by omega) (by omega) | exact A3 (by omega) (by omega) | exact Aq (by omega) (by omega)) ?_)) <;> refine AC (AH rfl ?_))
     repeat refine nx rfl ?_
     refine ⟨k + 1, ⟨rfl, ⟨rfl, rfl, ?_, trivial⟩, ⟨by omega, k2.trans kd, hf⟩⟩, by omega⟩
     show Value.int .i64 ((k : Int) + 1) = _
     rw [Int.natCast_add]; rfl
  ·have hp : Bv u y = false := by simp [Bv, hl]
   rw [hp, if_neg (by simp)] at hf
   ((apply D_R rfl rfl; (intro W hW; subst hW; refine AX rfl ?_; exact Z3)) <;> (apply D_R rfl rfl; (intro W hW; subst hW; refine BD rfl ?_; exact Z3)) <;> (apply D_R rfl rfl; (intro W hW; subst hW; refine Ab rfl ?_; exact Z3)) <;> (apply D_R rfl rfl; (intro W hW; subst hW; refine AH rfl ?_; exact Z3)) <;> (apply D_R rfl rfl; (intro W hW; subst hW; refine W_idx1 rfl rfl rfl (by omega) ?_; exact Z3)) <;> (apply D_R rfl rfl; (intro W hW; subst hW; refine AG rfl (by assumption) ?_; exact Z3)) <;> (apply D_R rfl rfl; (intro W hW; subst hW; refine BD rfl ?_; exact Z3)) <;> refine D_geqF rfl rfl rfl rfl (by omega) ?_ <;> (apply D_R rfl rfl; (intro W hW; subst hW; refine AD rfl ?_; exact Z3)) <;> refine Ad rfl rfl rfl rfl (Ad rfl rfl rfl rfl (Ad rfl rfl rfl rfl (Ad rfl rfl rfl rfl (Ad rfl rfl rfl rfl (Ad rfl rfl rfl rfl (Ad rfl rfl rfl rfl (Ad rfl rfl rfl rfl (Ad rfl rfl rfl rfl (Ad rfl rfl rfl rfl (Ad rfl rfl rfl rfl (Ad rfl rfl rfl rfl ?_))))))))))) <;> (apply D_R rfl rfl; (intro W hW; subst hW; (refine AS rfl ?_; refine AD rfl ?_); exact Z3)) <;> refine Ax ?_)
   repeat first | refine nx rfl ?_ | refine nf rfl ?_
   (refine AA (AH rfl (Bq rfl rfl (by first | exact Ar (by omega) (by omega) | exact A3 (by omega) (by omega) | exact Aq (by omega) (by omega)) ?_)) <;> refine AC (AH rfl ?_))
   repeat refine nx rfl ?_
   refine ⟨k + 1, ⟨rfl, ⟨rfl, rfl, ?_, trivial⟩, ⟨by omega, k2.trans kd, hf⟩⟩, by omega⟩
   show Value.int .i64 ((k : Int) + 1) = _
   rw [Int.natCast_add]; rfl
 ·refine AA (AH rfl (Ab rfl (At rfl (Bb rfl rfl (by omega) ?_))))
  repeat first | refine nx rfl ?_ | refine nf rfl ?_
  refine AA (AC (AX rfl ?_))
  repeat refine nx rfl ?_
  have hd : symsL.drop k = [] := List.drop_eq_nil_of_le (by show 15 ≤ k; omega)
  rw [hd] at hf
  exact AQ rfl ⟨by unfold symW; rw [hf]; rfl, k1.trans k2⟩
def Cb (u : List UInt8) : Int × Nat × Bool :=
 if CL (u.getD 0 0) = true then (1, Al BG u 1, decide (Al BG u 1 ≤ 20))
 else if As (u.getD 0 0) = true then (2, Al As u 0, !BL u 0)
 else (3, (symW u).length, !decide (symW u = []))
end Go.Proofs.YtfcgdbmoncnibaaGreatDoor
