/- The lexer: the scan of a text. The lexer: Lex, and its deferred call. The lexer: what Lex answers. The lexer: tokens read, the fixed examples. The lexer's plain law: the scan without fuel, texts that go on after a line feed. The lexer's plain law: steps of a scan, the beginning of a text. The lexer's plain law: a text behind another one. The lexer's laws: gaps. The lexer's plain law: gaps between the tokens. The lexer's plain law: tokens stand in the text. The lexer's plain law: tokens with gaps between them. The parser's plain law: formulas, the grammar and its runs. The parser's plain law: what a run leaves, runs over other tokens, over longer lists. The parser: its state, formulas in memory, the functions that look at one token. The parser: names. Rules: bytes out of a string, an interface held against nil. The parser: numbers. Conditions: none. -/
import Derived.Test.YtfcgdbmoncnibaaGreatDoorZF3
import Derived.Lib.ConvBytes

namespace Go.Proofs.YtfcgdbmoncnibaaGreatDoor
open Go.RowKit
set_option linter.unusedVariables false
variable {mk : Prop} [MK mk]
def inSpan (c : UInt8) (p : Nat × Nat × Nat) : Bool := decide (p.1 ≤ c.toNat) && decide (c.toNat ≤ p.2.1)
def kindB (c : UInt8) : Option Nat := (spansL.find? (inSpan c)).map (·.2.2)
def Bk (t : List UInt8) (a : Nat) (ts : List Tok) : Res :=
 match kindB (t.getD a 0) with
 | some 0 => blankM a ts
 | some 1 => commM t a ts
 | some 2 => nameM t a ts
 | some 3 => numM t a ts
 | some _ => symM t a ts
 | none => .error (40, a)
def scanF (t : List UInt8) : Nat → Nat → List Tok → Res
 | 0, a, _ => .error (40, a)
 | n + 1, a, ts => if a < t.length then (match Bk t a ts with | .ok (a', ts') => scanF t n a' ts' | .error e => .error e) else .ok (a, ts)
def scanR (t : List UInt8) : Res := scanF t (t.length + 1) 0 []
theorem Co {t : List UInt8} {a n a' : Nat} {ts ts' : List Tok} {k : Int} (h : addM t a ts k n = .ok (a', ts')) : a' = n := by
 unfold addM at h
 split at h
 ·cases h
 ·cases h; rfl
theorem kindB_dig {c : UInt8} (h : kindB c = some 3) : A0 c = true := by
 unfold kindB at h
 obtain ⟨p, hp, hk⟩ := Option.map_eq_some_iff.1 h
 have h1 := List.find?_some hp
 have h2 := List.mem_of_find?_eq_some hp
 simp [spansL] at h2
 rcases h2 with rfl | rfl | rfl | rfl | rfl | rfl | rfl | rfl | rfl | rfl | rfl | rfl | rfl | rfl | rfl | rfl <;> simp at hk
 simpa [inSpan, A0] using h1
theorem kindB_comm {c : UInt8} (h : kindB c = some 1) : inComm c = true := by
 unfold kindB at h
 obtain ⟨p, hp, hk⟩ := Option.map_eq_some_iff.1 h
 have h1 := List.find?_some hp
 have h2 := List.mem_of_find?_eq_some hp
 simp [spansL] at h2
 rcases h2 with rfl | rfl | rfl | rfl | rfl | rfl | rfl | rfl | rfl | rfl | rfl | rfl | rfl | rfl | rfl | rfl <;> simp at hk
 simp [inSpan] at h1
 simp [inComm]; omega
theorem step_on {t : List UInt8} {a a' : Nat} {ts ts' : List Tok} (hl : a < t.length) (h : Bk t a ts = .ok (a', ts')) : a < a' := by
 have hc : t[a]? = some t[a] := List.getElem?_eq_getElem hl
 generalize t[a] = c at hc
 unfold Bk at h
 rw [getD_of hc] at h
 split at h
 ·cases h; omega
 ·cases h
  rw [whileB_step hc (kindB_comm (by assumption))]
  have := whileB_ge inComm t (a + 1); omega
 ·unfold nameM at h
  split at h
  ·cases h
  ·have := Co h; have := whileB_ge CA t (a + 1); omega
 ·unfold numM at h
  split at h
  ·cases h
  ·have := Co h
   rw [whileB_step hc (kindB_dig (by assumption))] at this
   have := whileB_ge A0 t (a + 1); omega
 ·unfold symM at h
  split at h
  ·rename_i y hy
   have h2 := List.mem_of_find?_eq_some hy
   have := Co h
   have hne : ∀ y ∈ symsL, 1 ≤ y.length := by decide
   have := hne y h2; omega
  ·cases h
 ·cases h
theorem spanC_at : ∀ (l : List (Nat × Nat × Nat)) (k : Nat) (p : Nat × Nat × Nat), l[k]? = some p → ((l.flatMap spanC1).drop (k * 3)).take 3 = spanC1 p
 | [], k, p, h => by simp at h
 | q :: l, 0, p, h => by simp at h; subst h; simp [spanC1]
 | q :: l, k + 1, p, h => by
  have := spanC_at l k p (by simpa using h)
  rw [← this, List.flatMap_cons, List.drop_append, List.drop_eq_nil_of_le (by simp [spanC1]; omega), List.nil_append]
  congr 2
  simp [spanC1]; omega
def fnC (s : Nat) : List Value := [.func (.func 111) #[pt s] #[], .func (.func 112) #[pt s] #[], .func (.func 113) #[pt s] #[], .func (.func 114) #[pt s] #[], .func (.func 115) #[pt s] #[]]
theorem scan_ok (w : World) (s : Nat) (t : List UInt8) (hb : Blk w s 111 [AM t, .int .i64 0, .slice none 0 0]) (hG : GV w) (hs2 : 10 ≤ s) (hl : t.length ≤ 6000) : FnS 70 [pt s] w w s t (scanR t) := by
 have hsz := hb.lt
 refine Aq Tryz.func70 rfl Tryz.ntmps70 (Nat.le_of_ble_eq_true rfl) (by kernel_rfl) ?_
 repeat refine nx rfl ?_
 refine AA (AK rfl (BC rfl rfl (AK rfl (BC rfl rfl (AK rfl (BC rfl rfl (AK rfl (BC rfl rfl (AK rfl (BC rfl rfl (W_buildArr (by rfl) (by rfl) ?_)))))))))))
 refine Aw (fun w1 n1 => ?_)
 refine Aa (cs := fnC s) rfl rfl rfl (by intro u hu; simp [fnC] at hu; rcases hu with rfl | rfl | rfl | rfl | rfl <;> rfl) n1.blk (by simp [fnC]) (fun w2 p2 => ?_)
 have hb2 : Blk w2 w.heap.size 165 (fnC s) := p2.blk
 have k2 : Ext w w2 := n1.keep.keep p2.keep (by simp)
 have hbs := hb.keep k2 (by simp)
 repeat refine nx rfl ?_
 have hG2 := hG.ext k2
 have hs0 : St w2 w2 s t 0 [] := ⟨Keep.refl _ _, by have := k2.size; omega, hl, by omega, by simp, _, hbs, ⟨rfl, .inl ⟨rfl, rfl⟩⟩⟩
 have hb2lt := hb2.lt
 have hfin : ∀ w' a ts, St w2 w' s t a ts → St w w' s t a ts := fun w' a ts h => by
  obtain ⟨hk, hs, hl, ha, hn, tv, hb, ho⟩ := h
  exact ⟨k2.any.trans hk fun x hx _ => hx, hsz, hl, ha, hn, tv, hb, ownsRow_mono ho k2.size⟩
 have hpan : ∀ w', Keep [s] w2 w' → Keep [s] w w' := fun w' h => k2.any.trans h fun x hx _ => hx
 refine BY (α := Nat × Nat × List Tok) (fun _ => [(0, pt s), (2, pt w.heap.size)]) (fun x w1 => St w2 w1 s t x.2.1 x.2.2 ∧ t.length < x.1 + x.2.1 ∧ scanF t x.1 x.2.1 x.2.2 = scanR t) (fun x => x.1) (t.length + 1, 0, []) ⟨rfl, rfl, trivial⟩ ⟨hs0, by simp, rfl⟩ ?_
 rintro ⟨n, a, ts⟩ w3 f' ⟨hst, hn, hr⟩
 simp only at hst hn hr ⊢
 obtain ⟨n, rfl⟩ : ∃ m, n = m + 1 := ⟨n - 1, by have := hst.loc; omega⟩
 unfold scanF at hr
 repeat refine nx rfl ?_
 refine A7 (.read 0 (.read 1 (.read 2 (.read 3 (.read 4 (.read 5 (.read 6 (.read 7 (.read 8 (.read 9 .done)))))))))) BA (by kernel_rfl) (fun wd kd ed => ⟨fun W => W = wd, ?_, ?_⟩)
 ·rfl
 obtain ⟨hk3, hs3, _, ha3, hn3, tv3, hb3, ho3⟩ := id hst
 have hbd := hb3.keep kd (by simp)
 by_cases hlt : a < t.length
 ·rw [if_pos hlt] at hr
  ((apply D_R rfl rfl; (intro W hW; subst hW; refine AK rfl ?_; exact Z3)) <;> (apply D_R rfl rfl; (intro W hW; subst hW; refine AF rfl ?_; exact Z3)) <;> (apply D_R rfl rfl; (intro W hW; subst hW; refine AD rfl ?_; exact Z3)) <;> (apply D_R rfl rfl; (intro W hW; subst hW; refine AG rfl (Blk.cell (by assumption) (by rfl)) ?_; exact Z3)) <;> (apply D_R rfl rfl; (intro W hW; subst hW; refine AK rfl ?_; exact Z3)) <;> (apply D_R rfl rfl; (intro W hW; subst hW; refine AF rfl ?_; exact Z3)) <;> (apply D_R rfl rfl; (intro W hW; subst hW; refine AD rfl ?_; exact Z3)) <;> (apply D_R rfl rfl; (intro W hW; subst hW; refine AG rfl (Blk.cell (by assumption) (by rfl)) ?_; exact Z3)) <;> (apply D_R rfl rfl; (intro W hW; subst hW; refine Bb rfl ?_; exact Z3)) <;> refine D_lssT rfl rfl rfl rfl (by omega) (Ay ?_))
  have hstd := hst.ext kd
  have hc : t[a]? = some t[a] := List.getElem?_eq_getElem hlt
  generalize t[a] = c at hc
  have hGd : GV wd := hG2.keep hstd.keep (by simp; omega) (by simp; omega)
  have hb2d : Blk wd w.heap.size 165 (fnC s) := hb2.keep hstd.keep (by simp; omega)
  repeat refine nx rfl ?_
  clear hbd
  refine A7 (.read 0 (.read 1 (.read 2 (.read 3 (.read 4 (.read 5 (.read 6 (.read 7 (.read 8 (.read 9 .done)))))))))) BA (by kernel_rfl) (fun wd kd ed => ⟨fun W => W = wd, ?_, ?_⟩)
  ·rfl
  have hbd := (hb3.keep (by assumption) (by simp)).keep kd (by simp)
  ((apply D_R rfl rfl; (intro W hW; subst hW; refine AK rfl ?_; exact Z3)) <;> (apply D_R rfl rfl; (intro W hW; subst hW; refine AF rfl ?_; exact Z3)) <;> (apply D_R rfl rfl; (intro W hW; subst hW; refine AD rfl ?_; exact Z3)) <;> (apply D_R rfl rfl; (intro W hW; subst hW; refine AG rfl (Blk.cell (by assumption) (by rfl)) ?_; exact Z3)) <;> (apply D_R rfl rfl; (intro W hW; subst hW; refine AK rfl ?_; exact Z3)) <;> (apply D_R rfl rfl; (intro W hW; subst hW; refine AF rfl ?_; exact Z3)) <;> (apply D_R rfl rfl; (intro W hW; subst hW; refine AD rfl ?_; exact Z3)) <;> (apply D_R rfl rfl; (intro W hW; subst hW; refine AG rfl (Blk.cell (by assumption) (by rfl)) ?_; exact Z3)) <;> (apply D_R rfl rfl; (intro W hW; subst hW; refine Be rfl rfl (by assumption) ?_; exact Z3)) <;> (apply D_R rfl rfl; (intro W hW; subst hW; (refine AB ?_; refine AH rfl ?_); exact Z3)) <;> refine Ay ?_)
  have hst4 := hstd.ext kd
  have hG4 := hGd.ext kd
  have hb4 := hb2d.keep kd (by simp)
  clear hbd
  repeat refine nx rfl ?_
  refine AA (AZ rfl rfl hG4.spans (AH rfl ?_))
  repeat refine nx rfl ?_
  have hst5 : Bk t a ts = match (spansL.find? (inSpan c)).map (·.2.2) with | some 0 => blankM a ts | some 1 => commM t a ts | some 2 => nameM t a ts | some 3 => numM t a ts | some _ => symM t a ts | none => .error (40, a) := by
   unfold Bk; rw [getD_of hc]; rfl
  refine BY (α := Nat) (fun k => [(0, pt s), (2, pt w.heap.size), (3, enc8 c), (36, .agg spanC.toArray), (37, .int .i64 (k : Int))]) (fun k w5 => k ≤ 16 ∧ Ext wd w5 ∧ spansL.find? (inSpan c) = (spansL.drop k).find? (inSpan c)) (fun k => 16 - k) 0 ⟨rfl, rfl, rfl, rfl, rfl, trivial⟩ ⟨by omega, Ext.refl _, rfl⟩ ?_
  rintro k w5 f5 ⟨hk, hw5, hf⟩
  have h5 := hst4.ext hw5
  repeat refine nx rfl ?_
  by_cases hlk : k < 16
  ·have hp : spansL[k]? = some spansL[k] := List.getElem?_eq_getElem hlk
   generalize spansL[k] = p at hp
   rw [find_step hp] at hf
   have hpm : p.2.2 < 5 := by
    have : ∀ p ∈ spansL, p.2.2 < 5 := by decide
    exact this p (List.mem_of_getElem? hp)
   refine AA (BM rfl rfl (by omega) ?_)
   repeat refine nx rfl ?_
   (refine AA ?_; refine W_vidx rfl rfl hlk (spanC_at _ _ _ hp) ?_; refine Aw (fun w6 n6 => ?_))
   refine Aa (cs := spanC1 p) rfl rfl rfl (by intro u hu; simp [spanC1] at hu; rcases hu with rfl | rfl | rfl <;> rfl) n6.blk (by simp [spanC1]) (fun w7 p7 => ?_)
   have b7 : Blk w7 w5.heap.size 167 (spanC1 p) := p7.blk
   have k7 : Ext w5 w7 := n6.keep.keep p7.keep (by simp)
   have h7 := h5.ext k7
   repeat refine nx rfl ?_
   have hb7 : Blk w7 w.heap.size 165 (fnC s) := (hb4.keep hw5 (by simp)).keep k7 (by simp)
   obtain ⟨p1, p2, p3⟩ := p
   simp only at hpm
   replace b7 : Blk w7 w5.heap.size 167 [.int .u8 (p1 : Int), .int .u8 (p2 : Int), .int .i64 (p3 : Int)] := b7
   by_cases c1 : p1 ≤ c.toNat
   ·by_cases c2 : c.toNat ≤ p2
    ·rw [if_pos (by simp [inSpan, c1, c2])] at hf
     (refine AA (AD rfl (AG rfl (Blk.cell (by assumption) (by rfl)) ?_)) <;> refine AH rfl (W_leqT rfl rfl (by omega) (AC rfl (AE rfl (AH rfl (AE rfl (AD rfl (AE rfl (AG rfl (Blk.cell (by assumption) (by rfl)) ?_)))))))) <;> refine AE rfl (W_leqT rfl rfl (by omega) (AO rfl (AC rfl ?_))))
     repeat refine nx rfl ?_
     obtain rfl | rfl | rfl | rfl | rfl : p3 = 0 ∨ p3 = 1 ∨ p3 = 2 ∨ p3 = 3 ∨ p3 = 4 := by omega
     ·have e0 : Bk t a ts = blankM a ts := by rw [hst5, hf]; rfl
      (refine AA (AD rfl (AG rfl (Blk.cell (by assumption) (by rfl)) ?_)) <;> refine W_indexArr rfl rfl (by omega) (by omega) (AG rfl (Blk.cell (by assumption) (by rfl)) ?_))
      refine CD (v1 := [pt s]) (v2 := []) (vs := []) rfl (blank_ok w2 _ s a t ts h7 hlt) rfl ?_ ?_
      ·rintro v w8 ⟨rfl, a', ts', he, h8⟩
       have hee := e0.trans he
       rw [hee] at hr
       repeat refine nx rfl ?_
       exact ⟨(n, a', ts'), ⟨rfl, ⟨rfl, rfl, trivial⟩, ⟨h8, by have := step_on hlt hee; simp only; omega, hr⟩⟩, Nat.lt_succ_self _⟩
      ·rintro ch w8 ⟨e, q, he, rfl, h8⟩
       have hee := e0.trans he
       rw [hee] at hr
       repeat refine nx rfl ?_
       exact AV ⟨e, q, hr.symm, rfl, hpan _ h8⟩
     ·have e0 : Bk t a ts = commM t a ts := by rw [hst5, hf]; rfl
      (refine AA (AD rfl (AG rfl (Blk.cell (by assumption) (by rfl)) ?_)) <;> refine W_indexArr rfl rfl (by omega) (by omega) (AG rfl (Blk.cell (by assumption) (by rfl)) ?_))
      refine CD (v1 := [pt s]) (v2 := []) (vs := []) rfl (comment_ok w2 _ s a t ts h7) rfl ?_ ?_
      ·rintro v w8 ⟨rfl, a', ts', he, h8⟩
       have hee := e0.trans he
       rw [hee] at hr
       repeat refine nx rfl ?_
       exact ⟨(n, a', ts'), ⟨rfl, ⟨rfl, rfl, trivial⟩, ⟨h8, by have := step_on hlt hee; simp only; omega, hr⟩⟩, Nat.lt_succ_self _⟩
      ·rintro ch w8 ⟨e, q, he, rfl, h8⟩
       have hee := e0.trans he
       rw [hee] at hr
       repeat refine nx rfl ?_
       exact AV ⟨e, q, hr.symm, rfl, hpan _ h8⟩
     ·have e0 : Bk t a ts = nameM t a ts := by rw [hst5, hf]; rfl
      (refine AA (AD rfl (AG rfl (Blk.cell (by assumption) (by rfl)) ?_)) <;> refine W_indexArr rfl rfl (by omega) (by omega) (AG rfl (Blk.cell (by assumption) (by rfl)) ?_))
      refine CD (v1 := [pt s]) (v2 := []) (vs := []) rfl (scanName_ok w2 _ s a t ts h7 hlt) rfl ?_ ?_
      ·rintro v w8 ⟨rfl, a', ts', he, h8⟩
       have hee := e0.trans he
       rw [hee] at hr
       repeat refine nx rfl ?_
       exact ⟨(n, a', ts'), ⟨rfl, ⟨rfl, rfl, trivial⟩, ⟨h8, by have := step_on hlt hee; simp only; omega, hr⟩⟩, Nat.lt_succ_self _⟩
      ·rintro ch w8 ⟨e, q, he, rfl, h8⟩
       have hee := e0.trans he
       rw [hee] at hr
       repeat refine nx rfl ?_
       exact AV ⟨e, q, hr.symm, rfl, hpan _ h8⟩
     ·have e0 : Bk t a ts = numM t a ts := by rw [hst5, hf]; rfl
      (refine AA (AD rfl (AG rfl (Blk.cell (by assumption) (by rfl)) ?_)) <;> refine W_indexArr rfl rfl (by omega) (by omega) (AG rfl (Blk.cell (by assumption) (by rfl)) ?_))
      refine CD (v1 := [pt s]) (v2 := []) (vs := []) rfl (scanNumber_ok w2 _ s a t ts h7 hlt) rfl ?_ ?_
      ·rintro v w8 ⟨rfl, a', ts', he, h8⟩
       have hee := e0.trans he
       rw [hee] at hr
       repeat refine nx rfl ?_
       exact ⟨(n, a', ts'), ⟨rfl, ⟨rfl, rfl, trivial⟩, ⟨h8, by have := step_on hlt hee; simp only; omega, hr⟩⟩, Nat.lt_succ_self _⟩
      ·rintro ch w8 ⟨e, q, he, rfl, h8⟩
       have hee := e0.trans he
       rw [hee] at hr
       repeat refine nx rfl ?_
       exact AV ⟨e, q, hr.symm, rfl, hpan _ h8⟩
     ·have e0 : Bk t a ts = symM t a ts := by rw [hst5, hf]; rfl
      (refine AA (AD rfl (AG rfl (Blk.cell (by assumption) (by rfl)) ?_)) <;> refine W_indexArr rfl rfl (by omega) (by omega) (AG rfl (Blk.cell (by assumption) (by rfl)) ?_))
      refine CD (v1 := [pt s]) (v2 := []) (vs := []) rfl (symbol_ok w2 _ s a t ts h7 hlt hG2 hs2) rfl ?_ ?_
      ·rintro v w8 ⟨rfl, a', ts', he, h8⟩
       have hee := e0.trans he
       rw [hee] at hr
       repeat refine nx rfl ?_
       exact ⟨(n, a', ts'), ⟨rfl, ⟨rfl, rfl, trivial⟩, ⟨h8, by have := step_on hlt hee; simp only; omega, hr⟩⟩, Nat.lt_succ_self _⟩
      ·rintro ch w8 ⟨e, q, he, rfl, h8⟩
       have hee := e0.trans he
       rw [hee] at hr
       repeat refine nx rfl ?_
       exact AV ⟨e, q, hr.symm, rfl, hpan _ h8⟩
    ·rw [if_neg (by simp [inSpan, c2])] at hf
     (refine AA (AD rfl (AG rfl (Blk.cell (by assumption) (by rfl)) ?_)) <;> refine AH rfl (W_leqT rfl rfl (by omega) (AC rfl (AE rfl (AH rfl (AE rfl (AD rfl (AE rfl (AG rfl (Blk.cell (by assumption) (by rfl)) ?_)))))))) <;> refine AE rfl (W_leqF rfl rfl (by omega) (AO rfl (AC rfl ?_))))
     repeat first | refine nx rfl ?_ | refine nf rfl ?_
     (refine AA (BR rfl rfl (by first | exact Al (by omega) (by omega) | exact At (by omega) (by omega) | exact Am (by omega) (by omega)) ?_) <;> refine AH rfl ?_)
     repeat refine nx rfl ?_
     refine ⟨k + 1, ⟨rfl, ⟨rfl, rfl, rfl, rfl, ?_, trivial⟩, ⟨by omega, hw5.trans k7, hf⟩⟩, by omega⟩
     show Value.int .i64 ((k : Int) + 1) = _
     rw [Int.natCast_add]; rfl
   ·rw [if_neg (by simp [inSpan, c1])] at hf
    (refine AA (AD rfl (AG rfl (Blk.cell (by assumption) (by rfl)) ?_)) <;> refine AH rfl (W_leqF rfl rfl (by omega) (AC rfl (AJ rfl (AJ rfl (AJ rfl (AJ rfl (AQ rfl (AC rfl ?_)))))))))
    repeat first | refine nx rfl ?_ | refine nf rfl ?_
    (refine AA (BR rfl rfl (by first | exact Al (by omega) (by omega) | exact At (by omega) (by omega) | exact Am (by omega) (by omega)) ?_) <;> refine AH rfl ?_)
    repeat refine nx rfl ?_
    refine ⟨k + 1, ⟨rfl, ⟨rfl, rfl, rfl, rfl, ?_, trivial⟩, ⟨by omega, hw5.trans k7, hf⟩⟩, by omega⟩
    show Value.int .i64 ((k : Int) + 1) = _
    rw [Int.natCast_add]; rfl
  ·obtain ⟨hk6, hs6, _, ha6, hn6, tv6, hb6, ho6⟩ := id h5
   refine AA (BN rfl rfl (by omega) ?_)
   repeat first | refine nx rfl ?_ | refine nf rfl ?_
   (refine AA (AK rfl (AF rfl (AD rfl (AG rfl (Blk.cell (by assumption) (by rfl)) ?_)))) <;> refine Ac (by rfl) (by rfl) ?_ <;> refine Cv (Cz rfl ?_))
   repeat refine nx rfl ?_
   have hd : spansL.drop k = [] := List.drop_eq_nil_of_le (by show 16 ≤ k; omega)
   rw [hd] at hf
   rw [hst5, hf] at hr
   exact AV ⟨_, _, hr.symm, rfl, hpan _ hk6⟩
 ·rw [if_neg hlt] at hr
  ((apply D_R rfl rfl; (intro W hW; subst hW; refine AK rfl ?_; exact Z3)) <;> (apply D_R rfl rfl; (intro W hW; subst hW; refine AF rfl ?_; exact Z3)) <;> (apply D_R rfl rfl; (intro W hW; subst hW; refine AD rfl ?_; exact Z3)) <;> (apply D_R rfl rfl; (intro W hW; subst hW; refine AG rfl (Blk.cell (by assumption) (by rfl)) ?_; exact Z3)) <;> (apply D_R rfl rfl; (intro W hW; subst hW; refine AK rfl ?_; exact Z3)) <;> (apply D_R rfl rfl; (intro W hW; subst hW; refine AF rfl ?_; exact Z3)) <;> (apply D_R rfl rfl; (intro W hW; subst hW; refine AD rfl ?_; exact Z3)) <;> (apply D_R rfl rfl; (intro W hW; subst hW; refine AG rfl (Blk.cell (by assumption) (by rfl)) ?_; exact Z3)) <;> (apply D_R rfl rfl; (intro W hW; subst hW; refine Bb rfl ?_; exact Z3)) <;> refine D_lssF rfl rfl rfl rfl (by omega) (Ay ?_))
  repeat first | refine nx rfl ?_ | refine nf rfl ?_
  exact Az rfl ⟨rfl, _, _, hr.symm, hfin _ _ _ (hst.ext kd)⟩
end Go.Proofs.YtfcgdbmoncnibaaGreatDoor
namespace Go.Proofs.YtfcgdbmoncnibaaGreatDoor
open Go.RowKit
set_option linter.unusedVariables false
variable {mk : Prop} [MK mk]
theorem rec_ret (w : World) (c2 c3 c4 : Nat) : CallsDIn Fence.wide 0 Tryz.prog 69 ([] ++ [pt c2, pt c3, pt c4] : List Value).toArray .returning w (fun e u' w' => match e with | .returned _ => u' = .returning ∧ Ext w w' | _ => False) := by
 refine Ct (u1 := .returning) (v0 := .nilIface) (G := fun _ w' => Ext w w') (args := [pt c2, pt c3, pt c4]) Tryz.func69 rfl Tryz.ntmps69 (by simp) (by decide) (by kernel_rfl) (by kernel_rfl) (.inl ⟨rfl, rfl, rfl⟩) ?_
 refine W_assert_nil (z := .agg #[.int .i64 0, .int .i64 0]) rfl (by kernel_rfl) ?_
 refine Bn rfl (Af rfl rfl (Af rfl rfl ?_))
 refine Aw (fun w1 n1 => ?_)
 refine Aa (cs := [.int .i64 0, .int .i64 0]) rfl rfl rfl (by intro u hu; simp at hu; subst hu; rfl) n1.blk (by simp) (fun w2 p2 => ?_)
 have k2 : Ext w w2 := n1.keep.keep p2.keep (by simp)
 refine AB (AC rfl ?_)
 repeat refine nx rfl ?_
 refine AA (AC rfl ?_)
 repeat first | refine nx rfl ?_ | refine nf rfl ?_
 exact Az rfl k2
theorem rec_pan (w : World) (c2 c3 c4 : Nat) (x2 x3 x4 : Value) (e q : Int) (d2 : Blk w c2 65 [x2]) (d3 : Blk w c3 44 [x3]) (d4 : Blk w c4 3 [x4]) (h23 : c2 ≠ c3) (h24 : c2 ≠ c4) (h34 : c3 ≠ c4) :
  CallsDIn Fence.wide 0 Tryz.prog 69 ([] ++ [pt c2, pt c3, pt c4] : List Value).toArray (.panicking [{ v := .iface 107 (.agg #[.int .i64 e, .int .i64 q]), recovered := false }]) w
   (fun en u' w' => match en with | .returned _ => u' = .panicking [{ v := .iface 107 (.agg #[.int .i64 e, .int .i64 q]), recovered := true }] ∧ (Keep [c2, c3, c4] w w' ∧ Blk w' c2 65 [.slice none 0 0] ∧ Blk w' c3 44 [.int .i64 e] ∧ Blk w' c4 3 [.int .i64 q]) | _ => False) := by
 have l2 := d2.lt
 have l3 := d3.lt
 have l4 := d4.lt
 refine Ct (u1 := .panicking [{ v := .iface 107 (.agg #[.int .i64 e, .int .i64 q]), recovered := true }]) (v0 := .iface 107 (.agg #[.int .i64 e, .int .i64 q]))
  (G := fun _ w' => Keep [c2, c3, c4] w w' ∧ Blk w' c2 65 [.slice none 0 0] ∧ Blk w' c3 44 [.int .i64 e] ∧ Blk w' c4 3 [.int .i64 q]) (args := [pt c2, pt c3, pt c4]) Tryz.func69 rfl Tryz.ntmps69 (by simp) (by decide) (by kernel_rfl) (by kernel_rfl) (.inr ⟨_, rfl, rfl, rfl⟩) ?_
 refine W_assert_yes rfl ?_
 refine Bn rfl (Af rfl rfl (Af rfl rfl ?_))
 refine Aw (fun w1 n1 => ?_)
 refine Aa (cs := [.int .i64 e, .int .i64 q]) rfl rfl rfl (by intro u hu; simp at hu; rcases hu with rfl | rfl <;> rfl) n1.blk (by simp) (fun w2 p2 => ?_)
 have k2 : Ext w w2 := n1.keep.keep p2.keep (by simp)
 have b3 : Blk w2 w.heap.size 107 [.int .i64 e, .int .i64 q] := p2.blk
 replace d2 := d2.keep k2 (by simp)
 replace d3 := d3.keep k2 (by simp)
 replace d4 := d4.keep k2 (by simp)
 refine AB (AC rfl ?_)
 repeat refine nx rfl ?_
 refine AA (AC rfl ?_)
 repeat refine nx rfl ?_
 refine A7 (.read 0 (.read 1 (.read 2 (.read 3 (.alt 4 (.alt 5 (.alt 6 .done .stop) .stop) .stop))))) BA (by kernel_rfl) (fun wd kd ed => ⟨fun W => W.cell? ⟨w.heap.size, 0, none⟩ = some (.int .i64 e) ∧ W.cell? ⟨w.heap.size, 1, none⟩ = some (.int .i64 q), ?_, ?_⟩)
 ·exact ⟨(b3.keep kd (by simp)).cell rfl, (b3.keep kd (by simp)).cell rfl⟩
 have fc0 : ∀ W : World, (W.cell? ⟨w.heap.size, 0, none⟩ = some (.int .i64 e) ∧ W.cell? ⟨w.heap.size, 1, none⟩ = some (.int .i64 q)) → W.cell? ⟨w.heap.size, 0, none⟩ = some (.int .i64 e) := fun W h => h.1
 have fc1 : ∀ W : World, (W.cell? ⟨w.heap.size, 0, none⟩ = some (.int .i64 e) ∧ W.cell? ⟨w.heap.size, 1, none⟩ = some (.int .i64 q)) → W.cell? ⟨w.heap.size, 1, none⟩ = some (.int .i64 q) := fun W h => h.2
 replace b3 := b3.keep kd (by simp)
 replace d2 := d2.keep kd (by simp)
 replace d3 := d3.keep kd (by simp)
 replace d4 := d4.keep kd (by simp)
 have k : Keep [c2, c3, c4] w wd := (k2.trans kd).any
 refine D_R rfl rfl (fun W hW => AD rfl Z3) (D_R rfl rfl (fun W hW => AG rfl (fc0 W hW) Z3) (D_R rfl rfl (fun W hW => AD rfl Z3) (D_R rfl rfl (fun W hW => AG rfl (fc1 W hW) Z3) ?_)))
 refine D_E rfl ?_
 refine Ak rfl rfl rfl d2 (by simp) (fun W p => ?_)
 have bb := p.blk
 replace d3 := d3.keep p.keep (by simp; omega)
 replace d4 := d4.keep p.keep (by simp; omega)
 replace b3 := b3.keep p.keep (by simp; omega)
 replace k := k.trans p.keep (by simp)
 clear d2
 have d2 := bb
 clear bb p
 refine AI ⟨_, fun _ h => h, ⟨b3.cell rfl, b3.cell rfl⟩, ?_⟩
 refine D_E rfl ?_
 refine Ak rfl rfl rfl d3 (by simp) (fun W p => ?_)
 have bb := p.blk
 replace d2 := d2.keep p.keep (by simp; omega)
 replace d4 := d4.keep p.keep (by simp; omega)
 replace b3 := b3.keep p.keep (by simp; omega)
 replace k := k.trans p.keep (by simp)
 clear d3
 have d3 := bb
 clear bb p
 refine AI ⟨_, fun _ h => h, ⟨b3.cell rfl, b3.cell rfl⟩, ?_⟩
 refine D_E rfl ?_
 refine Ak rfl rfl rfl d4 (by simp) (fun W p => ?_)
 have bb := p.blk
 replace d2 := d2.keep p.keep (by simp; omega)
 replace d3 := d3.keep p.keep (by simp; omega)
 replace b3 := b3.keep p.keep (by simp; omega)
 replace k := k.trans p.keep (by simp)
 clear d4
 have d4 := bb
 clear bb p
 refine AI ⟨_, fun _ h => h, ⟨b3.cell rfl, b3.cell rfl⟩, ?_⟩
 refine Ay ?_
 repeat refine nx rfl ?_
 exact Az rfl ⟨k, d2, d3, d4⟩
end Go.Proofs.YtfcgdbmoncnibaaGreatDoor
namespace Go.Proofs.YtfcgdbmoncnibaaGreatDoor
open Go.RowKit
set_option linter.unusedVariables false
variable {mk : Prop} [MK mk]
def lexM (t : List UInt8) : Except (Int × Nat) (List Tok) :=
 if 6000 < t.length then .error (2, 6000) else match scanR t with | .ok r => .ok r.2 | .error e => .error e
def LexAns (B : Nat) (w' : World) (m : Except (Int × Nat) (List Tok)) (tv : Value) (e q : Int) : Prop :=
 match m with
 | .ok ts => e = 0 ∧ q = -1 ∧ w'.ownsRow B 158 3 tv ts.length (toksC ts)
 | .error (e', p) => e = e' ∧ q = (p : Int) ∧ tv = .slice none 0 0
theorem lex_ok (w : World) (t : List UInt8) (hG : GV w) : Fn Tryz.prog 38 [AM t] w fun v w' => ∃ tv e q, v = .tuple #[tv, .int .i64 e, .int .i64 q] ∧ Ext w w' ∧ LexAns w.heap.size w' (lexM t) tv e q := by
 have h2 := hG.size
 refine fn_of_wcD Tryz.func38 rfl Tryz.ntmps38 (Nat.le_of_ble_eq_true rfl) (by kernel_rfl) ?_
 repeat refine nx rfl ?_
 refine AA ?_
 refine Aw (fun w1 n1 => ?_)
 refine Aw (fun w2 n2 => ?_)
 refine Aw (fun w3 n3 => ?_)
 have z1 := n1.size
 have z2 := n2.size
 have z3 := n3.size
 have b1 : Blk w3 w.heap.size 65 [.slice none 0 0] := (n1.blk.keep n2.keep (by simp)).keep n3.keep (by simp)
 have b2 : Blk w3 w1.heap.size 44 [.int .i64 0] := n2.blk.keep n3.keep (by simp)
 have b3 : Blk w3 w2.heap.size 3 [.int .i64 0] := n3.blk
 have k3 : Ext w w3 := (n1.keep.trans n2.keep).trans n3.keep
 repeat refine nx rfl ?_
 by_cases hlen : 6000 < t.length
 ·refine AA (AY rfl (Bb rfl (W_gtrT rfl rfl (by omega) ?_)))
  repeat refine nx rfl ?_
  (refine AA ?_; refine Ak rfl rfl rfl b1 (by simp) (fun w4 p4 => ?_))
  refine Ak rfl rfl rfl (b2.keep p4.keep (by simp; omega)) (by simp) (fun w5 p5 => ?_)
  refine Ak rfl rfl rfl ((b3.keep p4.keep (by simp; omega)).keep p5.keep (by simp; omega)) (by simp) (fun w6 p6 => ?_)
  have c1 : Blk w6 w.heap.size 65 [.slice none 0 0] := (p4.blk.keep p5.keep (by simp; omega)).keep p6.keep (by simp; omega)
  have c2 : Blk w6 w1.heap.size 44 [.int .i64 2] := p5.blk.keep p6.keep (by simp; omega)
  have c3 : Blk w6 w2.heap.size 3 [.int .i64 6000] := p6.blk
  have k6 : Ext w w6 := ((k3.keep p4.keep (by simp)).keep p5.keep (by simp; omega)).keep p6.keep (by simp; omega)
  repeat refine nx rfl ?_
  refine finD_ret_nil (BZ rfl (c1.cell rfl) (BZ rfl (c2.cell rfl) (BZ rfl (c3.cell rfl) ?_)))
  refine ⟨_, _, _, rfl, k6, ?_⟩
  unfold lexM
  rw [if_pos hlen]
  exact ⟨rfl, rfl, rfl⟩
 ·refine AA (AY rfl (Bb rfl (W_gtrF rfl rfl (by omega) ?_)))
  repeat first | refine nx rfl ?_ | refine nf rfl ?_
  refine AA (BC rfl rfl ?_)
  refine W_defer (v1 := []) (v2 := [pt w.heap.size, pt w1.heap.size, pt w2.heap.size]) (vs := []) rfl rfl ?_
  repeat refine nx rfl ?_
  refine AA (AY rfl (Ac (by rfl) (by rfl) ?_))
  refine Bs (L := [AM t, .int .i64 0, .slice none 0 0]) rfl (fun w4 n4 => ?_)
  have z4 := n4.size
  have s4 := n4.blk
  have k4 : Ext w w4 := k3.trans n4.keep
  refine AB (AK rfl ?_)
  repeat refine nx rfl ?_
  refine AA (AK rfl ?_)
  have hm : lexM t = match scanR t with | .ok r => .ok r.2 | .error e => .error e := by unfold lexM; rw [if_neg hlen]
  refine AX (scan_ok w4 w3.heap.size t s4 (hG.ext k4) (by omega) (by omega)) rfl ?_ ?_
  ·rintro v w5 ⟨rfl, a, ts, he, h5⟩
   obtain ⟨hk5, hs5, _, ha5, hn5, tv, hb5, ho5⟩ := h5
   repeat refine nx rfl ?_
   refine AA (AK rfl (AF rfl (AD rfl (AG rfl (Blk.cell (by assumption) (by rfl)) ?_))))
   have e1 : Blk w5 w.heap.size 65 [.slice none 0 0] := (b1.keep n4.keep (by simp)).keep hk5 (by simp; omega)
   have e2 : Blk w5 w1.heap.size 44 [.int .i64 0] := (b2.keep n4.keep (by simp)).keep hk5 (by simp; omega)
   have e3 : Blk w5 w2.heap.size 3 [.int .i64 0] := (b3.keep n4.keep (by simp)).keep hk5 (by simp; omega)
   obtain ⟨tp, tc, rfl⟩ : ∃ tp tc, tv = .slice tp ts.length tc := by
    rcases ho5.2 with ⟨rfl, h0⟩ | ⟨g, cap, cur, rfl, _⟩
    ·exact ⟨none, 0, by rw [h0]⟩
    ·exact ⟨_, _, rfl⟩
   refine Ak rfl rfl rfl e1 (by simp) (fun w6 p6 => ?_)
   refine Ak rfl rfl rfl (e2.keep p6.keep (by simp; omega)) (by simp) (fun w7 p7 => ?_)
   refine Ak rfl rfl rfl ((e3.keep p6.keep (by simp; omega)).keep p7.keep (by simp; omega)) (by simp) (fun w8 p8 => ?_)
   have c1 : Blk w8 w.heap.size 65 [.slice tp ts.length tc] := (p6.blk.keep p7.keep (by simp; omega)).keep p8.keep (by simp; omega)
   have c2 : Blk w8 w1.heap.size 44 [.int .i64 0] := p7.blk.keep p8.keep (by simp; omega)
   have c3 : Blk w8 w2.heap.size 3 [.int .i64 (-1)] := p8.blk
   have k5 : Ext w w5 := k4.keep hk5 (by simp; omega)
   have k8 : Ext w w8 := ((k5.keep p6.keep (by simp)).keep p7.keep (by simp; omega)).keep p8.keep (by simp; omega)
   have hne : ∀ g, (Value.slice tp ts.length tc).ownBlock = some g → w4.heap.size ≤ g := fun g hg => (Bl ho5 hg).1
   have o8 := A5 (A5 (A5 ho5 p6.keep fun g hg => by have := hne g hg; simp; omega) p7.keep fun g hg => by have := hne g hg; simp; omega) p8.keep fun g hg => by have := hne g hg; simp; omega
   repeat refine nx rfl ?_
   refine finD_ret_def (rec_ret _ _ _ _) fun w9 k9 => ?_
   refine BZ rfl ((c1.keep k9 (by simp)).cell rfl) (BZ rfl ((c2.keep k9 (by simp)).cell rfl) (BZ rfl ((c3.keep k9 (by simp)).cell rfl) ?_))
   refine ⟨_, _, _, rfl, k8.trans k9, ?_⟩
   rw [hm, he]
   exact ⟨rfl, rfl, ownsRow_mono (B7 o8 k9) k4.size⟩
  ·rintro ch w5 ⟨e, p, he, rfl, hk5⟩
   repeat refine nx rfl ?_
   have e1 : Blk w5 w.heap.size 65 [.slice none 0 0] := (b1.keep n4.keep (by simp)).keep hk5 (by simp; omega)
   have e2 : Blk w5 w1.heap.size 44 [.int .i64 0] := (b2.keep n4.keep (by simp)).keep hk5 (by simp; omega)
   have e3 : Blk w5 w2.heap.size 3 [.int .i64 0] := (b3.keep n4.keep (by simp)).keep hk5 (by simp; omega)
   have k5 : Ext w w5 := k4.keep hk5 (by simp; omega)
   refine finD_pan_def (rec_pan _ _ _ _ _ _ _ e (p : Int) e1 e2 e3 (by omega) (by omega) (by omega)) fun w9 h9 => ?_
   obtain ⟨k9, c1, c2, c3⟩ := h9
   refine BZ rfl (c1.cell rfl) (BZ rfl (c2.cell rfl) (BZ rfl (c3.cell rfl) ?_))
   refine ⟨_, _, _, rfl, k5.keep k9 (by simp; omega), ?_⟩
   rw [hm, he]
   exact ⟨rfl, rfl, rfl⟩
end Go.Proofs.YtfcgdbmoncnibaaGreatDoor
namespace Go.Proofs.YtfcgdbmoncnibaaGreatDoor
open Go.RowKit
set_option linter.unusedVariables false
variable {mk : Prop} [MK mk]
def Toks (w : World) (a : Option Addr) (c : Nat) (ts : List Tok) : Prop := Sl BH w (.slice a ts.length c) ts.length (toksC ts)
theorem addM_err {t : List UInt8} {a n p : Nat} {ts : List Tok} {k e : Int} (h : addM t a ts k n = .error (e, p)) : e = 2 ∧ p = a ∧ ts.length = 2000 := by
 unfold addM at h
 split at h
 ·cases h; exact ⟨rfl, rfl, by assumption⟩
 ·cases h
theorem stepM_err {t : List UInt8} {a p : Nat} {ts : List Tok} {e : Int} (h : Bk t a ts = .error (e, p)) : p = a ∧ (e = 40 ∨ e = 2 ∧ ts.length = 2000) := by
 unfold Bk at h
 split at h
 ·cases h
 ·cases h
 ·unfold nameM at h
  split at h
  ·cases h; exact ⟨rfl, .inl rfl⟩
  ·obtain ⟨h1, h2, h3⟩ := addM_err h; exact ⟨h2, .inr ⟨h1, h3⟩⟩
 ·unfold numM at h
  split at h
  ·cases h; exact ⟨rfl, .inl rfl⟩
  ·obtain ⟨h1, h2, h3⟩ := addM_err h; exact ⟨h2, .inr ⟨h1, h3⟩⟩
 ·unfold symM at h
  split at h
  ·obtain ⟨h1, h2, h3⟩ := addM_err h; exact ⟨h2, .inr ⟨h1, h3⟩⟩
  ·cases h; exact ⟨rfl, .inl rfl⟩
 ·cases h; exact ⟨rfl, .inl rfl⟩
theorem scanF_err (t : List UInt8) : ∀ (n a : Nat) (ts : List Tok) (e : Int) (p : Nat), scanF t n a ts = .error (e, p) → e ≠ 0
 | 0, a, ts, e, p, h => by unfold scanF at h; cases h; decide
 | n + 1, a, ts, e, p, h => by
  unfold scanF at h
  split at h
  ·cases hs : Bk t a ts with
   | ok r => rw [hs] at h; exact scanF_err t n _ _ e p h
   | error r =>
    rw [hs] at h
    cases h
    rcases (stepM_err hs).2 with rfl | ⟨rfl, _⟩ <;> decide
  ·cases h
theorem lexM_err {t : List UInt8} {e : Int} {p : Nat} (h : lexM t = .error (e, p)) : e ≠ 0 := by
 unfold lexM at h
 split at h
 ·cases h; decide
 ·cases hs : scanR t with
  | ok r => rw [hs] at h; cases h
  | error r => rw [hs] at h; cases h; exact scanF_err t _ _ _ _ _ hs
theorem lexC (w : World) (t : List UInt8) (hG : GV w) : Fn Tryz.prog 38 [AM t] w fun v w' => ∃ a c e q ts, v = .tuple #[.slice a ts.length c, .int .i64 e, .int .i64 q] ∧ Ext w w' ∧ Toks w' a c ts ∧
  ((lexM t = .ok ts ∧ e = 0 ∧ q = -1) ∨ ∃ p : Nat, lexM t = .error (e, p) ∧ e ≠ 0 ∧ q = (p : Int) ∧ ts = []) := by
 refine (lex_ok w t hG).mono ?_
 rintro v w' ⟨tv, e, q, rfl, k, h⟩
 unfold LexAns at h
 cases hm : lexM t with
 | ok ts =>
  rw [hm] at h
  obtain ⟨rfl, rfl, ho⟩ := h
  have hs := BF (ok := BH) ho fun _ _ => trivial
  obtain ⟨a, c, rfl, hr⟩ := id hs
  exact ⟨a, c, 0, -1, ts, rfl, k, hs, .inl ⟨rfl, rfl, rfl⟩⟩
 | error r =>
  obtain ⟨e', p⟩ := r
  rw [hm] at h
  obtain ⟨rfl, rfl, rfl⟩ := h
  exact ⟨none, 0, e, p, [], rfl, k, ⟨_, _, rfl, by simp, by omega, fun _ => rfl, .inl rfl⟩, .inr ⟨p, rfl, lexM_err hm, rfl, rfl⟩⟩
theorem lexK (w : World) (t : List UInt8) (ts : List Tok) (n : Nat) (hm : lexM t = .ok ts) (hn : ts.length = n) (hG : GV w) :
  Fn Tryz.prog 38 [AM t] w fun v w' => ∃ a c, v = .tuple #[.slice a n c, .int .i64 0, .int .i64 (-1)] ∧ Ext w w' ∧ Toks w' a c ts := by
 refine (lexC w t hG).mono ?_
 rintro v w' ⟨a, c, e, q, ts', rfl, k, h, ⟨h1, rfl, rfl⟩ | ⟨p, h1, _⟩⟩
 ·rw [hm] at h1; cases h1; subst hn; exact ⟨a, c, rfl, k, h⟩
 ·rw [hm] at h1; cases h1
end Go.Proofs.YtfcgdbmoncnibaaGreatDoor
namespace Go.Proofs.YtfcgdbmoncnibaaGreatDoor
set_option linter.unusedVariables false
variable {mk : Prop} [MK mk]
theorem addM_le {t : List UInt8} {a n a' : Nat} {ts ts' : List Tok} {k : Int} (h : addM t a ts k n = .ok (a', ts')) : ts' = ts ++ [⟨k, (t.take n).drop a, a⟩] ∧ ts.length ≠ 2000 := by
 unfold addM at h
 split at h
 ·cases h
 ·cases h; exact ⟨rfl, by assumption⟩
theorem step_le {t : List UInt8} {a a' : Nat} {ts ts' : List Tok} (hl : a < t.length) (h : Bk t a ts = .ok (a', ts')) : a' ≤ t.length := by
 unfold Bk at h
 split at h
 ·cases h; omega
 ·cases h; exact whileB_le (by omega)
 ·unfold nameM at h
  split at h
  ·cases h
  ·have := Co h; have := whileB_le (p := CA) (t := t) (a := a + 1) (by omega); omega
 ·unfold numM at h
  split at h
  ·cases h
  ·have := Co h; have := whileB_le (p := A0) (t := t) (a := a) (by omega); omega
 ·unfold symM at h
  split at h
  ·rename_i y hy
   have h2 := List.find?_some hy
   have := Co h
   have := ((hasPre_iff _ _).1 h2).length_le
   simp at this; omega
  ·cases h
 ·cases h
theorem scanF_fuel (t : List UInt8) : ∀ (n m a : Nat) (ts : List Tok), a ≤ t.length → t.length < n + a → t.length < m + a → scanF t n a ts = scanF t m a ts
 | 0, _, _, _, h, h1, _ => by omega
 | _, 0, _, _, h, _, h2 => by omega
 | n + 1, m + 1, a, ts, h, h1, h2 => by
  unfold scanF
  split
  ·cases hs : Bk t a ts with
   | ok r =>
    have e1 := step_on (by assumption) hs
    have e2 := step_le (by assumption) hs
    exact scanF_fuel t n m r.1 r.2 e2 (by omega) (by omega)
   | error e => rfl
  ·rfl
def scanW (t : List UInt8) (a : Nat) (ts : List Tok) : Res := scanF t (t.length + 1 - a) a ts
theorem scanW_end {t : List UInt8} {ts : List Tok} : scanW t t.length ts = .ok (t.length, ts) := by
 unfold scanW
 rw [show t.length + 1 - t.length = 0 + 1 by omega]
 unfold scanF
 rw [if_neg (by omega)]
theorem scanW_step {t : List UInt8} {a : Nat} {ts : List Tok} (h : a < t.length) : scanW t a ts = match Bk t a ts with | .ok r => scanW t r.1 r.2 | .error e => .error e := by
 unfold scanW
 rw [show t.length + 1 - a = (t.length - a) + 1 by omega]
 conv => lhs; unfold scanF
 rw [if_pos h]
 cases hs : Bk t a ts with
 | ok r =>
  have e1 := step_on h hs
  have e2 := step_le h hs
  exact scanF_fuel t _ _ r.1 r.2 e2 (by omega) (by omega)
 | error e => rfl
theorem scanR_eq (t : List UInt8) : scanR t = scanW t 0 [] := rfl
theorem lexM_of {t : List UInt8} (h : t.length ≤ 6000) : lexM t = match scanW t 0 [] with | .ok r => .ok r.2 | .error e => .error e := by
 unfold lexM; rw [if_neg (by omega), scanR_eq] <;> cases scanW t 0 [] <;> rfl
end Go.Proofs.YtfcgdbmoncnibaaGreatDoor
namespace Go.Proofs.YtfcgdbmoncnibaaGreatDoor
set_option linter.unusedVariables false
variable {mk : Prop} [MK mk]
inductive Reach1 (t : List UInt8) : Nat → List Tok → Nat → List Tok → Prop
 | refl (a : Nat) (ts : List Tok) : Reach1 t a ts a ts
 | step {a a1 b : Nat} {ts ts1 tsb : List Tok} (h : a < t.length) (hs : Bk t a ts = .ok (a1, ts1)) (hr : Reach1 t a1 ts1 b tsb) : Reach1 t a ts b tsb
theorem step_shape {t : List UInt8} {a a1 : Nat} {ts ts1 : List Tok} (h : Bk t a ts = .ok (a1, ts1)) : ts1 = ts ∨ ∃ k, ts1 = ts ++ [⟨k, (t.take a1).drop a, a⟩] := by
 unfold Bk at h
 split at h
 ·cases h; exact .inl rfl
 ·cases h; exact .inl rfl
 ·unfold nameM at h
  split at h
  ·cases h
  ·have e := Co h; subst e; exact .inr ⟨_, (addM_le h).1⟩
 ·unfold numM at h
  split at h
  ·cases h
  ·have e := Co h; subst e; exact .inr ⟨_, (addM_le h).1⟩
 ·unfold symM at h
  split at h
  ·have e := Co h; subst e; exact .inr ⟨_, (addM_le h).1⟩
  ·cases h
 ·cases h
theorem reach_of_scan {t : List UInt8} : ∀ (m a : Nat) (ts : List Tok), t.length - a ≤ m → a ≤ t.length →
  (∃ tsb, scanW t a ts = .ok (t.length, tsb) ∧ Reach1 t a ts t.length tsb) ∨ ∃ e p tsp, scanW t a ts = .error (e, p) ∧ Reach1 t a ts p tsp ∧ p < t.length ∧ Bk t p tsp = .error (e, p) := by
 intro m
 induction m with
 | zero =>
  intro a ts hm ha
  obtain rfl : a = t.length := by omega
  exact .inl ⟨ts, scanW_end, .refl _ _⟩
 | succ m ih =>
  intro a ts hm ha
  by_cases h : a < t.length
  ·rw [scanW_step h]
   cases hs : Bk t a ts with
   | ok r =>
    have e1 := step_on h hs
    have e2 := step_le h hs
    rcases ih r.1 r.2 (by omega) e2 with ⟨tsb, h1, h2⟩ | ⟨e, p, tsp, h1, h2, h3, h4⟩
    ·exact .inl ⟨tsb, h1, .step h hs h2⟩
    ·exact .inr ⟨e, p, tsp, h1, .step h hs h2, h3, h4⟩
   | error r =>
    obtain ⟨e, p⟩ := r
    obtain ⟨rfl, _⟩ := stepM_err hs
    exact .inr ⟨e, p, ts, rfl, .refl _ _, h, hs⟩
  ·obtain rfl : a = t.length := by omega
   exact .inl ⟨ts, scanW_end, .refl _ _⟩
theorem takeWhile_take {q : UInt8 → Bool} : ∀ (l : List UInt8) (m : Nat), (l.takeWhile q).length ≤ m → ((l.take m).takeWhile q).length = (l.takeWhile q).length
 | [], m, _ => by simp
 | x :: l, 0, h => by simp at h ⊢; cases hq : q x <;> simp_all
 | x :: l, m + 1, h => by
  rw [List.take_succ_cons, List.takeWhile_cons, List.takeWhile_cons] at *
  cases hq : q x with
  | false => simp
  | true => simp [hq] at h ⊢; exact takeWhile_take l m h
theorem whileB_take {q : UInt8 → Bool} {t : List UInt8} {a p : Nat} (h : A2 q t a ≤ p) : A2 q (t.take p) a = A2 q t a := by
 unfold A2 at *
 rw [List.drop_take, takeWhile_take _ _ (by omega)]
theorem addM_take {t : List UInt8} {a n p : Nat} {ts : List Tok} {k : Int} (h : n ≤ p) : addM (t.take p) a ts k n = addM t a ts k n := by
 unfold addM; rw [List.take_take, Nat.min_eq_left h]
theorem getD_take {t : List UInt8} {a p : Nat} (h : a < p) : (t.take p).getD a 0 = t.getD a 0 := by
 simp [List.getD_eq_getElem?_getD, h]
theorem find_same {α : Type} {f g : α → Bool} {l : List α} {y : α} (h : l.find? f = some y) (hy : g y = true) (hg : ∀ z, g z = true → f z = true) : l.find? g = some y := by
 induction l with
 | nil => cases h
 | cons x l ih =>
  rw [List.find?_cons] at h ⊢
  cases hx : f x with
  | true => rw [hx] at h; cases h; rw [hy]
  | false =>
   rw [hx] at h
   have : g x = false := by cases hgx : g x with | false => rfl | true => rw [hg x hgx] at hx; cases hx
   rw [this]; exact ih h
theorem numBad_take {t : List UInt8} {a p : Nat} (hp : p ≤ t.length) (ha : a < p) (hn : A2 A0 t a ≤ p) (h : Bh t a = false) : Bh (t.take p) a = false := by
 unfold Bh at *
 rw [whileB_take hn, getD_take ha]
 rw [Bool.or_eq_false_iff] at h ⊢
 refine ⟨h.1, ?_⟩
 by_cases hlt : A2 A0 t a < p
 ·rw [getD_take hlt]
  have h2 := h.2
  rw [decide_eq_true (show A2 A0 t a < t.length by omega)] at h2
  rw [Bool.true_and] at h2
  rw [h2]; simp
 ·rw [decide_eq_false (by simp; omega)]; rfl
theorem step_take {t : List UInt8} {a a1 p : Nat} {ts ts1 : List Tok} (hp : p ≤ t.length) (hl : a < t.length) (hs : Bk t a ts = .ok (a1, ts1)) (h1 : a1 ≤ p) : Bk (t.take p) a ts = .ok (a1, ts1) := by
 have hon := step_on hl hs
 have hap : a < p := by omega
 unfold Bk at hs ⊢
 rw [getD_take hap]
 split at hs
 ·exact hs
 ·cases hs
  simp only [commM]
  rw [whileB_take h1]
 ·unfold nameM at hs ⊢
  split at hs
  ·cases hs
  ·have e := Co hs
   subst e
   rw [whileB_take h1, if_neg (by assumption), addM_take h1]; exact hs
 ·unfold numM at hs ⊢
  split at hs
  ·cases hs
  ·rename_i hb
   have e := Co hs
   subst e
   rw [whileB_take h1, if_neg (by rw [numBad_take hp hap h1 (by simpa using hb)]; simp), addM_take h1]; exact hs
 ·unfold symM at hs ⊢
  split at hs
  ·rename_i y hy
   have e := Co hs
   have hpy := (hasPre_iff _ _).1 (List.find?_some hy)
   have hf : symsL.find? (DA ((t.take p).drop a)) = some y := by
    refine find_same hy ((hasPre_iff _ _).2 ?_) fun z hz => (hasPre_iff _ _).2 ?_
    ·rw [List.drop_take]
     exact List.prefix_of_prefix_length_le hpy (List.take_prefix _ _) (by have := hpy.length_le; simp at this ⊢; omega) |> fun h => h
    ·have := (hasPre_iff _ _).1 hz
     rw [List.drop_take] at this
     exact this.trans (List.take_prefix _ _)
   rw [hf]
   simp only
   rw [addM_take (by omega)]; exact hs
  ·cases hs
 ·cases hs
theorem lexM_ok {t : List UInt8} {ts : List Tok} (h : lexM t = .ok ts) : t.length ≤ 6000 ∧ Reach1 t 0 [] t.length ts := by
 have hl : t.length ≤ 6000 := by
  unfold lexM at h
  split at h
  ·cases h
  ·omega
 refine ⟨hl, ?_⟩
 rw [lexM_of hl] at h
 rcases reach_of_scan (t := t) t.length 0 [] (by omega) (by omega) with ⟨tsb, h1, h2⟩ | ⟨e, p, tsp, h1, _⟩
 ·rw [h1] at h; cases h; exact h2
 ·rw [h1] at h; cases h
end Go.Proofs.YtfcgdbmoncnibaaGreatDoor
namespace Go.Proofs.YtfcgdbmoncnibaaGreatDoor
set_option linter.unusedVariables false
variable {mk : Prop} [MK mk]
theorem drop_sh (v u : List UInt8) (a : Nat) : (v ++ u).drop (v.length + a) = u.drop a := by
 rw [List.drop_append]; simp
theorem whileB_sh {q : UInt8 → Bool} (v u : List UInt8) (a : Nat) : A2 q (v ++ u) (v.length + a) = v.length + A2 q u a := by
 unfold A2; rw [drop_sh]; omega
theorem take_sh (v u : List UInt8) (a n : Nat) : ((v ++ u).take (v.length + n)).drop (v.length + a) = (u.take n).drop a := by
 rw [List.take_append]
 rw [List.take_of_length_le (by omega), show v.length + n - v.length = n by omega, drop_sh]
theorem getD_sh (v u : List UInt8) (a : Nat) : (v ++ u).getD (v.length + a) 0 = u.getD a 0 := by
 simp [List.getD_eq_getElem?_getD, List.getElem?_append_right]
theorem numBad_sh (v u : List UInt8) (a : Nat) : Bh (v ++ u) (v.length + a) = Bh u a := by
 unfold Bh
 rw [whileB_sh, getD_sh, getD_sh]
 rw [show v.length + A2 A0 u a - (v.length + a) = A2 A0 u a - a by omega]
 have e : decide (v.length + A2 A0 u a < (v ++ u).length) = decide (A2 A0 u a < u.length) := by simp
 rw [e]
end Go.Proofs.YtfcgdbmoncnibaaGreatDoor
namespace Go.Proofs.YtfcgdbmoncnibaaGreatDoor
open Go.RowKit
set_option linter.unusedVariables false
variable {mk : Prop} [MK mk]
end Go.Proofs.YtfcgdbmoncnibaaGreatDoor
namespace Go.Proofs.YtfcgdbmoncnibaaGreatDoor
set_option linter.unusedVariables false
variable {mk : Prop} [MK mk]
end Go.Proofs.YtfcgdbmoncnibaaGreatDoor
namespace Go.Proofs.YtfcgdbmoncnibaaGreatDoor
set_option linter.unusedVariables false
variable {mk : Prop} [MK mk]
end Go.Proofs.YtfcgdbmoncnibaaGreatDoor
namespace Go.Proofs.YtfcgdbmoncnibaaGreatDoor
set_option linter.unusedVariables false
variable {mk : Prop} [MK mk]
theorem addM_un {v u : List UInt8} {a1 n : Nat} {ts : List Tok} {x : Tok} {k : Int} (h : addM (v ++ u) v.length ts k (v.length + n) = .ok (a1, ts ++ [x])) :
  addM u 0 [] k n = .ok (a1 - v.length, [⟨x.kind, x.text, 0⟩]) := by
 have e := Co h
 obtain ⟨e1, e2⟩ := addM_le h
 subst e
 have := List.append_cancel_left e1
 simp at this
 subst this
 unfold addM
 have := take_sh v u 0 n
 simp at this
 simp [this]
theorem step_un {v u : List UInt8} {a1 : Nat} {ts : List Tok} {x : Tok} (h : Bk (v ++ u) v.length ts = .ok (a1, ts ++ [x])) :
  kindB (u.getD 0 0) ≠ some 1 ∧ Bk u 0 [] = .ok (a1 - v.length, [⟨x.kind, x.text, 0⟩]) := by
 unfold Bk at h ⊢
 have hg := getD_sh v u 0
 simp only [Nat.add_zero] at hg
 rw [hg] at h
 split at h
 ·simp [blankM] at h
 ·simp [commM] at h
 ·rename_i hk
  rw [hk]
  refine ⟨by simp, ?_⟩
  unfold nameM at h ⊢
  have hw := whileB_sh (q := CA) v u 1
  split at h
  ·cases h
  ·rename_i hn
   rw [hw] at h hn
   rw [if_neg (by simp only [Nat.zero_add]; omega)]
   exact addM_un h
 ·rename_i hk
  simp only [hk]
  refine ⟨by simp, ?_⟩
  unfold numM at h ⊢
  have hw := whileB_sh (q := A0) v u 0
  have hb := numBad_sh v u 0
  simp only [Nat.add_zero] at hw hb
  rw [hb, hw] at h
  split at h
  ·cases h
  ·rename_i hn
   rw [if_neg hn]
   exact addM_un h
 ·rename_i k h0 h1 h2 h3 hk
  rw [hk]
  refine ⟨fun e => h1 (Option.some.inj e), ?_⟩
  unfold symM at h ⊢
  have hd := drop_sh v u 0
  simp only [Nat.add_zero, List.drop_zero] at hd
  rw [hd] at h
  split at h
  ·rename_i y hy
   rw [List.drop_zero, hy]
   simp only [Nat.zero_add]
   exact addM_un h
  ·cases h
 ·cases h
structure Alone (k : Int) (y : List UInt8) : Prop where
 pos : 1 ≤ y.length
 kind : kindB (y.getD 0 0) ≠ some 1
 step : Bk y 0 [] = .ok (y.length, [⟨k, y, 0⟩])
theorem Reach1.alone {t : List UInt8} {a b : Nat} {ts tsb : List Tok} (h : Reach1 t a ts b tsb) (hb : b ≤ t.length) (hA : ∀ x ∈ ts, Alone x.kind x.text) : ∀ x ∈ tsb, Alone x.kind x.text := by
 induction h with
 | refl => exact hA
 | step h hs hr ih =>
  rename_i a a1 b ts ts1 tsb
  refine ih hb ?_
  have h0 := step_on h hs
  have h1 := step_le h hs
  rcases step_shape hs with rfl | ⟨k, rfl⟩
  ·exact hA
  ·intro x hx
   rcases List.mem_append.1 hx with hx | hx
   ·exact hA x hx
   ·simp at hx
    subst hx
    have g := step_take (p := a1) h1 h hs (Nat.le_refl _)
    have hv : (t.take a).length = a := by simp; omega
    have et : t.take a1 = t.take a ++ (t.take a1).drop a := by
     have : t.take a = (t.take a1).take a := by rw [List.take_take, Nat.min_eq_left (by omega)]
     rw [this, List.take_append_drop]
    generalize hy : (t.take a1).drop a = y at et g ⊢
    have hyl : y.length = a1 - a := by rw [← hy]; simp; omega
    rw [et] at g
    have g' : Bk (t.take a ++ y) (t.take a).length ts = .ok (a1, ts ++ [⟨k, y, a⟩]) := by rw [hv]; exact g
    obtain ⟨g1, g2⟩ := step_un g'
    rw [hv, ← hyl] at g2
    exact ⟨by simp only; omega, g1, g2⟩
def bare (x : Tok) : Int × List UInt8 := (x.kind, x.text)
end Go.Proofs.YtfcgdbmoncnibaaGreatDoor
namespace Go.Proofs.YtfcgdbmoncnibaaGreatDoor
set_option linter.unusedVariables false
variable {mk : Prop} [MK mk]
inductive Fml where
 | mk (op : Int) (name : List UInt8) (val bound : Int) (args : List Fml)
def Fml.op : Fml → Int | .mk o _ _ _ _ => o
def Fml.name : Fml → List UInt8 | .mk _ n _ _ _ => n
def Fml.val : Fml → Int | .mk _ _ v _ _ => v
def Fml.bound : Fml → Int | .mk _ _ _ b _ => b
def Fml.args : Fml → List Fml | .mk _ _ _ _ a => a
def zeroF : Fml := ⟨0, [], 0, 0, []⟩
structure Sgn where
 name : List UInt8
 input : Bool
 size : Int
structure Rqm where
 part : List UInt8
 name : List UInt8
 kind : Int
 formula : Fml
structure Spc where
 sigs : List Sgn
 reqs : List Rqm
structure Edt where
 kind : Int
 req : Rqm
structure Opr where
 op : Int
 indexed : Int
 val : Int
deriving DecidableEq
inductive NT where
 | formula | orN | orL | andN | andL | untilN | unary | primary | req | line | lines | part | parts | signal | sigs | spec | edit
abbrev NT.T : NT → Type
 | .formula | .orN | .andN | .untilN | .unary | .primary => Fml
 | .orL | .andL => List Fml
 | .req | .line => Rqm
 | .lines | .part => List Rqm
 | .parts => List (List Rqm)
 | .signal => Sgn
 | .sigs => List Sgn
 | .spec => Spc
 | .edit => Edt
abbrev BT := Int × List UInt8
inductive G (α : Type) : Type where
 | ret (a : α)
 | fail
 | look (k : Option BT → G α)
 | next (g : G α)
 | call (nt : NT) (k : nt.T → G α)
def G.bind {α β : Type} : G α → (α → G β) → G β
 | .ret a, f => f a
 | .fail, _ => .fail
 | .look k, f => .look fun o => (k o).bind f
 | .next g, f => .next (g.bind f)
 | .call nt k, f => .call nt fun v => (k v).bind f
abbrev Ans (α : Type) := Except (List Tok) (α × List Tok)
def evG (rec : (nt : NT) → List Tok → Option (Ans nt.T)) {α : Type} : G α → List Tok → Option (Ans α)
 | .ret a, l => some (.ok (a, l))
 | .fail, l => some (.error l)
 | .look k, l => evG rec (k (l.head?.map bare)) l
 | .next g, l => evG rec g l.tail
 | .call nt k, l => match rec nt l with
  | none => none
  | some (.error e) => some (.error e)
  | some (.ok (v, l')) => evG rec (k v) l'
def B6 (s : List UInt8) : Option BT → Bool
 | some x => !decide (x.1 = 2) && decide (x.2 = s)
 | none => false
def Ai (s : List UInt8) : G Bool := .look fun o => if B6 s o = true then .next (.ret true) else .ret false
def A9 (s : List UInt8) : G Unit := .look fun o => if B6 s o = true then .next (.ret ()) else .fail
def keysL : List (List UInt8) := [[105, 110, 112, 117, 116], [111, 117, 116, 112, 117, 116], [112, 97, 114, 116], [97, 115, 115, 117, 109, 101], [103, 117, 97, 114, 97, 110, 116, 101, 101], [116, 114, 117, 101], [102, 97, 108, 115, 101], [97, 100, 100], [100, 114, 111, 112], [114, 101, 112, 108, 97, 99, 101]]
def restB (c : UInt8) : Bool := BK c || A0 c || decide (c.toNat = 95)
def BS (s : List UInt8) : Bool :=
 decide (1 ≤ s.length) && decide (s.length ≤ 12) && BK (s.getD 0 0) && s.all restB && !decide (s ∈ keysL)
def nameG : G (List UInt8) := .look fun o => match o with
 | some x => if decide (x.1 = 1) && BS x.2 then .next (.ret x.2) else .fail
 | none => .fail
def numOf (s : List UInt8) : Int := s.foldl (fun n c => 10 * n + ((c.toNat : Int) - 48)) 0
def numberG : G Int := .look fun o => match o with
 | some x => if decide (x.1 = 2) then .next (.ret (numOf x.2)) else .fail
 | none => .fail
def prefixT : List (List UInt8 × Opr) := [([33], ⟨4, 0, 0⟩), ([88], ⟨8, 0, 0⟩), ([89], ⟨15, 0, 0⟩), ([90], ⟨15, 0, 1⟩), ([79], ⟨18, 0, 0⟩), ([72], ⟨19, 0, 0⟩), ([70], ⟨11, 13, 0⟩), ([71], ⟨12, 14, 0⟩)]
def infixT : List (List UInt8 × Opr) := [([85], ⟨9, 0, 0⟩), ([82], ⟨10, 0, 0⟩), ([83], ⟨16, 16, 0⟩), ([84], ⟨17, 17, 1⟩)]
def takeG (tab : List (List UInt8 × Opr)) : G (Option Opr) := .look fun o => match o with
 | some x => match tab.lookup x.2 with
  | some p => .next (.ret (some p))
  | none => .ret none
 | none => .ret none
def C3 (o : Opr) : G (Option Int) := if o.indexed = 0 then .ret none else (Ai [91]).bind fun b =>
 if b then numberG.bind fun n => (A9 [93]).bind fun _ => .ret (some n) else .ret none
def nodeF (op : Int) (l : List Fml) : Fml := match l with
 | [a] => a
 | l => ⟨op, [], 0, 0, l⟩
def isF (s : List UInt8) (n : Int) : Fml := ⟨3, s, n, 0, []⟩
def notF (f : Fml) : Fml := ⟨4, [], 0, 0, [f]⟩
def sees2 (s t : List UInt8) : G Bool := .look fun o => .ret (B6 s o || B6 t o)
def body : (nt : NT) → G nt.T
 | .formula => .call .orN fun a => (Ai [45, 62]).bind fun b => if b then .call .formula fun c => .ret ⟨7, [], 0, 0, [a, c]⟩ else .ret a
 | .orN => .call .andN fun a => .call .orL fun l => .ret (nodeF 6 (a :: l))
 | .orL => (Ai [124]).bind fun b => if b then .call .andN fun a => .call .orL fun l => .ret (a :: l) else .ret []
 | .andN => .call .untilN fun a => .call .andL fun l => .ret (nodeF 5 (a :: l))
 | .andL => (Ai [38]).bind fun b => if b then .call .untilN fun a => .call .andL fun l => .ret (a :: l) else .ret []
 | .untilN => .call .unary fun a => (takeG infixT).bind fun
  | none => .ret a
  | some o => (C3 o).bind fun n => .call .untilN fun c => .ret ⟨o.op, [], n.getD o.val, 0, [a, c]⟩
 | .unary => (takeG prefixT).bind fun
  | none => .call .primary .ret
  | some o => (C3 o).bind fun n => .call .unary fun a => .ret (match n with
   | some n => ⟨o.indexed, [], o.val, n, [a]⟩
   | none => ⟨o.op, [], o.val, 0, [a]⟩)
 | .primary => (Ai [116, 114, 117, 101]).bind fun b => if b then .ret ⟨1, [], 0, 0, []⟩ else
  (Ai [102, 97, 108, 115, 101]).bind fun b => if b then .ret ⟨2, [], 0, 0, []⟩ else
  (Ai [40]).bind fun b => if b then .call .formula fun f => (A9 [41]).bind fun _ => .ret f else
  nameG.bind fun s => (Ai [61]).bind fun b => if b then numberG.bind fun n => .ret (isF s n) else
  (Ai [33, 61]).bind fun b => if b then numberG.bind fun n => .ret (notF (isF s n)) else .ret (isF s 1)
 | .req => (Ai [97, 115, 115, 117, 109, 101]).bind fun b => (if b then .ret 1 else (A9 [103, 117, 97, 114, 97, 110, 116, 101, 101]).bind fun _ => .ret 2).bind fun k =>
  nameG.bind fun s => (A9 [58]).bind fun _ => .call .formula fun f => .ret ⟨[], s, k, f⟩
 | .line => .call .req fun r => (A9 [59]).bind fun _ => .ret r
 | .lines => (sees2 [97, 115, 115, 117, 109, 101] [103, 117, 97, 114, 97, 110, 116, 101, 101]).bind fun b => if b then .call .line fun r => .call .lines fun l => .ret (r :: l) else .ret []
 | .part => (A9 [112, 97, 114, 116]).bind fun _ => nameG.bind fun s => (A9 [123]).bind fun _ => .call .lines fun l => (A9 [125]).bind fun _ => .ret (l.map fun r => ⟨s, r.name, r.kind, r.formula⟩)
 | .parts => (sees2 [112, 97, 114, 116] [112, 97, 114, 116]).bind fun b => if b then .call .part fun l => .call .parts fun m => .ret (l :: m) else .ret []
 | .signal => (Ai [105, 110, 112, 117, 116]).bind fun i => (if i then .ret () else A9 [111, 117, 116, 112, 117, 116]).bind fun _ => nameG.bind fun s =>
  ((Ai [58]).bind fun b => if b then numberG else .ret 2).bind fun n => (A9 [59]).bind fun _ => .ret ⟨s, i, n⟩
 | .sigs => (sees2 [105, 110, 112, 117, 116] [111, 117, 116, 112, 117, 116]).bind fun b => if b then .call .signal fun x => .call .sigs fun l => .ret (x :: l) else .ret []
 | .spec => .call .sigs fun s => .call .parts fun r => .ret ⟨s, r.flatten⟩
 | .edit => (Ai [100, 114, 111, 112]).bind fun b => if b then nameG.bind fun s => .ret ⟨2, ⟨[], s, 0, zeroF⟩⟩ else
  (Ai [97, 100, 100]).bind fun b => (if b then .ret 1 else (A9 [114, 101, 112, 108, 97, 99, 101]).bind fun _ => .ret 3).bind fun k =>
  nameG.bind fun p => .call .req fun r => .ret ⟨k, ⟨p, r.name, r.kind, r.formula⟩⟩
def whole (nt : NT) : G nt.T := .call nt fun v => .look fun o => match o with
 | none => .ret v
 | some _ => .fail
def evN : Nat → (nt : NT) → List Tok → Option (Ans nt.T)
 | 0, _, _ => none
 | n + 1, nt, l => evG (evN n) (body nt) l
def Run {α : Type} (p : G α) (l : List Tok) (r : Ans α) : Prop := ∃ n, evG (evN n) p l = some r
def RunN (nt : NT) (l : List Tok) (r : Ans nt.T) : Prop := Run (body nt) l r
theorem evG_mono {f g : (nt : NT) → List Tok → Option (Ans nt.T)} (h : ∀ nt l r, f nt l = some r → g nt l = some r) {α : Type} : ∀ (p : G α) (l : List Tok) (r : Ans α), evG f p l = some r → evG g p l = some r
 | .ret a, l, r, hr => hr
 | .fail, l, r, hr => hr
 | .look k, l, r, hr => by simp only [evG] at hr ⊢; exact evG_mono h (k _) l r hr
 | .next q, l, r, hr => by simp only [evG] at hr ⊢; exact evG_mono h q _ r hr
 | .call nt k, l, r, hr => by
  simp only [evG] at hr ⊢
  cases hf : f nt l with
  | none => rw [hf] at hr; cases hr
  | some x =>
   rw [hf] at hr
   rw [h nt l x hf]
   cases x with
   | error e => exact hr
   | ok y => exact evG_mono h (k y.1) y.2 r hr
theorem evN_step : ∀ (n : Nat) (nt : NT) (l : List Tok) (r : Ans nt.T), evN n nt l = some r → evN (n + 1) nt l = some r
 | 0, nt, l, r, h => by cases h
 | n + 1, nt, l, r, h => by
  unfold evN at h ⊢
  exact evG_mono (fun nt l r h => evN_step n nt l r h) _ _ _ h
theorem evN_mono {n m : Nat} (h : n ≤ m) (nt : NT) (l : List Tok) (r : Ans nt.T) (hr : evN n nt l = some r) : evN m nt l = some r := by
 induction h with
 | refl => exact hr
 | step _ ih => exact evN_step _ _ _ _ ih
theorem ev_mono {n m : Nat} (h : n ≤ m) {α : Type} {p : G α} {l : List Tok} {r : Ans α} (hr : evG (evN n) p l = some r) : evG (evN m) p l = some r :=
 evG_mono (fun nt l r h' => evN_mono h nt l r h') p l r hr
theorem Run.det {α : Type} {p : G α} {l : List Tok} {r r' : Ans α} (h : Run p l r) (h' : Run p l r') : r = r' := by
 obtain ⟨n, hn⟩ := h
 obtain ⟨m, hm⟩ := h'
 have h1 := ev_mono (Nat.le_max_left n m) hn
 have h2 := ev_mono (Nat.le_max_right n m) hm
 rw [h1] at h2; exact Option.some.inj h2
theorem Run.ret {α : Type} (a : α) (l : List Tok) : Run (.ret a) l (.ok (a, l)) := ⟨0, rfl⟩
theorem Run.fail {α : Type} (l : List Tok) : Run (.fail : G α) l (.error l) := ⟨0, rfl⟩
theorem Run.look {α : Type} {k : Option BT → G α} {l : List Tok} {r : Ans α} (h : Run (k (l.head?.map bare)) l r) : Run (.look k) l r := h
theorem Run.next {α : Type} {g : G α} {l : List Tok} {r : Ans α} (h : Run g l.tail r) : Run (.next g) l r := h
theorem Run.call {α : Type} {nt : NT} {k : nt.T → G α} {l l' : List Tok} {v : nt.T} {r : Ans α} (h : RunN nt l (.ok (v, l'))) (h' : Run (k v) l' r) : Run (.call nt k) l r := by
 obtain ⟨n, hn⟩ := h
 obtain ⟨m, hm⟩ := h'
 refine ⟨max n m + 1, ?_⟩
 have h1 : evN (max n m + 1) nt l = some (.ok (v, l')) := ev_mono (Nat.le_max_left n m) hn
 simp only [evG, h1]
 exact ev_mono (by omega) hm
theorem Run.callE {α : Type} {nt : NT} {k : nt.T → G α} {l e : List Tok} (h : RunN nt l (.error e)) : Run (.call nt k) l (.error e) := by
 obtain ⟨n, hn⟩ := h
 refine ⟨n + 1, ?_⟩
 have h1 : evN (n + 1) nt l = some (.error e) := hn
 simp only [evG, h1]
theorem Run.call_inv {α : Type} {nt : NT} {k : nt.T → G α} {l : List Tok} {r : Ans α} (h : Run (.call nt k) l r) : (∃ v l', RunN nt l (.ok (v, l')) ∧ Run (k v) l' r) ∨ ∃ e, RunN nt l (.error e) ∧ r = .error e := by
 obtain ⟨n, hn⟩ := h
 simp only [evG] at hn
 cases n with
 | zero => simp [evN] at hn
 | succ n =>
  cases hf : evN (n + 1) nt l with
  | none => rw [hf] at hn; cases hn
  | some x =>
   rw [hf] at hn
   have hf' : evG (evN n) (body nt) l = some x := hf
   cases x with
   | error e => cases hn; exact .inr ⟨e, ⟨n, hf'⟩, rfl⟩
   | ok y => exact .inl ⟨y.1, y.2, ⟨n, hf'⟩, ⟨n + 1, hn⟩⟩
theorem evG_bind (f : (nt : NT) → List Tok → Option (Ans nt.T)) {α β : Type} : ∀ (p : G α) (q : α → G β) (l : List Tok), evG f (p.bind q) l = match evG f p l with
  | none => none
  | some (.error e) => some (.error e)
  | some (.ok (a, l')) => evG f (q a) l'
 | .ret a, q, l => rfl
 | .fail, q, l => rfl
 | .look k, q, l => by simp only [G.bind, evG]; exact evG_bind f (k _) q l
 | .next g, q, l => by simp only [G.bind, evG]; exact evG_bind f g q _
 | .call nt k, q, l => by
  simp only [G.bind, evG]
  cases f nt l with
  | none => rfl
  | some x =>
   cases x with
   | error e => rfl
   | ok y => exact evG_bind f (k y.1) q y.2
theorem Run.bind {α β : Type} {p : G α} {q : α → G β} {l l' : List Tok} {a : α} {r : Ans β} (h : Run p l (.ok (a, l'))) (h' : Run (q a) l' r) : Run (p.bind q) l r := by
 obtain ⟨n, hn⟩ := h
 obtain ⟨m, hm⟩ := h'
 refine ⟨max n m, ?_⟩
 rw [evG_bind, ev_mono (Nat.le_max_left n m) hn]
 exact ev_mono (Nat.le_max_right n m) hm
theorem Run.bindE {α β : Type} {p : G α} {q : α → G β} {l e : List Tok} (h : Run p l (.error e)) : Run (p.bind q) l (.error e) := by
 obtain ⟨n, hn⟩ := h
 exact ⟨n, by rw [evG_bind, hn]⟩
theorem Run.bind_inv {α β : Type} {p : G α} {q : α → G β} {l : List Tok} {r : Ans β} (h : Run (p.bind q) l r) : (∃ a l', Run p l (.ok (a, l')) ∧ Run (q a) l' r) ∨ ∃ e, Run p l (.error e) ∧ r = .error e := by
 obtain ⟨n, hn⟩ := h
 rw [evG_bind] at hn
 cases hf : evG (evN n) p l with
 | none => rw [hf] at hn; cases hn
 | some x =>
  rw [hf] at hn
  cases x with
  | error e => cases hn; exact .inr ⟨e, ⟨n, hf⟩, rfl⟩
  | ok y => exact .inl ⟨y.1, y.2, ⟨n, hf⟩, ⟨n, hn⟩⟩
end Go.Proofs.YtfcgdbmoncnibaaGreatDoor
namespace Go.Proofs.YtfcgdbmoncnibaaGreatDoor
set_option linter.unusedVariables false
variable {mk : Prop} [MK mk]
def Ans.rem {α : Type} : Ans α → List Tok
 | .ok y => y.2
 | .error e => e
theorem evG_suffix {f : (nt : NT) → List Tok → Option (Ans nt.T)} (hf : ∀ nt l r, f nt l = some r → Ans.rem r <:+ l) {α : Type} : ∀ (p : G α) (l : List Tok) (r : Ans α), evG f p l = some r → Ans.rem r <:+ l
 | .ret a, l, r, h => by cases h; exact List.suffix_rfl
 | .fail, l, r, h => by cases h; exact List.suffix_rfl
 | .look k, l, r, h => evG_suffix hf (k _) l r h
 | .next g, l, r, h => (evG_suffix hf g l.tail r h).trans (List.tail_suffix l)
 | .call nt k, l, r, h => by
  simp only [evG] at h
  cases hn : f nt l with
  | none => rw [hn] at h; cases h
  | some x =>
   rw [hn] at h
   have h1 := hf nt l x hn
   cases x with
   | error e => cases h; exact h1
   | ok y => exact (evG_suffix hf (k y.1) y.2 r h).trans h1
theorem evN_suffix : ∀ (n : Nat) (nt : NT) (l : List Tok) (r : Ans nt.T), evN n nt l = some r → Ans.rem r <:+ l
 | 0, _, _, _, h => by cases h
 | n + 1, nt, l, r, h => evG_suffix (evN_suffix n) (body nt) l r h
theorem Run.suffix {α : Type} {p : G α} {l : List Tok} {r : Ans α} (h : Run p l r) : Ans.rem r <:+ l := by
 obtain ⟨n, hn⟩ := h; exact evG_suffix (evN_suffix n) p l r hn
end Go.Proofs.YtfcgdbmoncnibaaGreatDoor
namespace Go.Proofs.YtfcgdbmoncnibaaGreatDoor
open Go.RowKit
set_option linter.unusedVariables false
variable {mk : Prop} [MK mk]
inductive FAt (ok : Nat → Prop) (w : World) : Value → Fml → Prop where
 | mk (op : Int) (name : List UInt8) (val bound : Int) (args : List Fml) (av : Value) (L : List (List Value)) (hS : Sl ok w av args.length L.flatten) (hL : L.length = args.length) (h5 : ∀ c ∈ L, c.length = 5)
   (hA : ∀ (i : Nat) (c : List Value) (g : Fml), L[i]? = some c → args[i]? = some g → FAt ok w (.agg c.toArray) g) : FAt ok w (.agg #[.int .i64 op, AM name, .int .i64 val, .int .i64 bound, av]) ⟨op, name, val, bound, args⟩
theorem FAt.keep {ok : Nat → Prop} {X : List Nat} {w w' : World} {v : Value} {f : Fml} (h : FAt ok w v f) (k : Keep X w w') (hX : ∀ b, ok b → b ∉ X) : FAt ok w' v f := by
 induction h with
 | mk op name val bound args av L hS hL h5 hA ih => exact .mk op name val bound args av L (hS.keep k hX) hL h5 ih
theorem FAt.ext {ok : Nat → Prop} {w w' : World} {v : Value} {f : Fml} (h : FAt ok w v f) (k : Ext w w') : FAt ok w' v f := h.keep k fun _ _ => by simp
theorem FAt.mono {ok ok' : Nat → Prop} {w : World} {v : Value} {f : Fml} (h : FAt ok w v f) (hk : ∀ b, ok b → ok' b) : FAt ok' w v f := by
 induction h with
 | mk op name val bound args av L hS hL h5 hA ih => exact .mk op name val bound args av L (hS.mono hk) hL h5 ih
theorem Sl.lt {ok : Nat → Prop} {w : World} {v : Value} {n : Nat} {cs : List Value} (h : Sl ok w v n cs) (hc : n ≠ 0 → cs ≠ []) : Sl (fun b => ok b ∧ b < w.heap.size) w v n cs := by
 obtain ⟨a, cap, hv, h1, h2, h3, h4⟩ := h
 refine ⟨a, cap, hv, h1, h2, h3, ?_⟩
 by_cases h0 : n = 0
 ·exact .inl h0
 ·obtain ⟨b, off, ha, hb, hcc⟩ := h4.resolve_left h0
  refine .inr ⟨b, off, ha, ⟨hb, ?_⟩, hcc⟩
  match cs, hc h0 with
  | u :: cs, _ => exact World.block_lt_of_cell? w _ (hcc 0 u rfl)
theorem flatten_ne {L : List (List Value)} {n : Nat} (hL : L.length = n) (h5 : ∀ c ∈ L, c.length = 5) : n ≠ 0 → L.flatten ≠ [] := by
 intro h0 e
 match L, hL with
 | [], hL => exact h0 hL.symm
 | c :: L, _ =>
  have := h5 c (by simp)
  simp at e
  simp [e.1] at this
theorem FAt.lt {ok : Nat → Prop} {w : World} {v : Value} {f : Fml} (h : FAt ok w v f) : FAt (fun b => ok b ∧ b < w.heap.size) w v f := by
 induction h with
 | mk op name val bound args av L hS hL h5 hA ih => exact .mk op name val bound args av L (hS.lt (flatten_ne hL h5)) hL h5 ih
theorem FAt.form {ok : Nat → Prop} {w : World} {v : Value} {f : Fml} (h : FAt ok w v f) : ∃ av, v = .agg #[.int .i64 f.op, AM f.name, .int .i64 f.val, .int .i64 f.bound, av] ∧
  ∃ L : List (List Value), Sl ok w av f.args.length L.flatten ∧ L.length = f.args.length ∧ (∀ c ∈ L, c.length = 5) ∧ ∀ (i : Nat) (c : List Value) (g : Fml), L[i]? = some c → f.args[i]? = some g → FAt ok w (.agg c.toArray) g := by
 cases h with
 | mk op name val bound args av L hS hL h5 hA => exact ⟨av, rfl, L, hS, hL, h5, hA⟩
theorem FAt.leaf (ok : Nat → Prop) (w : World) (op : Int) (name : List UInt8) (val bound : Int) : FAt ok w (.agg #[.int .i64 op, AM name, .int .i64 val, .int .i64 bound, .slice none 0 0]) ⟨op, name, val, bound, []⟩ :=
 .mk op name val bound [] _ [] ⟨none, 0, rfl, by simp, by omega, fun _ => rfl, .inl rfl⟩ rfl (fun c hc => by cases hc) (fun i c g h => by simp at h)
def FsAt (ok : Nat → Prop) (w : World) (L : List (List Value)) (l : List Fml) : Prop :=
 L.length = l.length ∧ (∀ c ∈ L, c.length = 5) ∧ ∀ (i : Nat) (c : List Value) (g : Fml), L[i]? = some c → l[i]? = some g → FAt ok w (.agg c.toArray) g
theorem FsAt.nil (ok : Nat → Prop) (w : World) : FsAt ok w [] [] := ⟨rfl, (fun c hc => by cases hc), fun i c g h => by simp at h⟩
theorem FsAt.cons {ok : Nat → Prop} {w : World} {c : List Value} {f : Fml} {L : List (List Value)} {l : List Fml} (h : FAt ok w (.agg c.toArray) f) (hc : c.length = 5) (hl : FsAt ok w L l) : FsAt ok w (c :: L) (f :: l) := by
 refine ⟨by simp [hl.1], fun d hd => ?_, fun i d g hi hg => ?_⟩
 ·rcases List.mem_cons.1 hd with rfl | hd
  ·exact hc
  ·exact hl.2.1 d hd
 ·cases i with
  | zero => simp at hi hg; subst hi hg; exact h
  | succ i => exact hl.2.2 i d g (by simpa using hi) (by simpa using hg)
theorem FsAt.snoc {ok : Nat → Prop} {w : World} {c : List Value} {f : Fml} : ∀ {L : List (List Value)} {l : List Fml}, FsAt ok w L l → FAt ok w (.agg c.toArray) f → c.length = 5 → FsAt ok w (L ++ [c]) (l ++ [f])
 | [], [], _, h, hc => FsAt.cons h hc (FsAt.nil ok w)
 | [], _ :: _, hl, _, _ => by have := hl.1; simp at this
 | _ :: _, [], hl, _, _ => by have := hl.1; simp at this
 | d :: L, g :: l, hl, h, hc => FsAt.cons (hl.2.2 0 d g rfl rfl) (hl.2.1 d (by simp)) (FsAt.snoc ⟨by simpa using hl.1, fun c hc => hl.2.1 c (by simp [hc]), fun i c g hi hg => hl.2.2 (i + 1) c g (by simpa using hi) (by simpa using hg)⟩ h hc)
theorem FsAt.keep {ok : Nat → Prop} {X : List Nat} {w w' : World} {L : List (List Value)} {l : List Fml} (h : FsAt ok w L l) (k : Keep X w w') (hX : ∀ b, ok b → b ∉ X) : FsAt ok w' L l :=
 ⟨h.1, h.2.1, fun i c g hi hg => (h.2.2 i c g hi hg).keep k hX⟩
theorem FsAt.mono {ok ok' : Nat → Prop} {w : World} {L : List (List Value)} {l : List Fml} (h : FsAt ok w L l) (hk : ∀ b, ok b → ok' b) : FsAt ok' w L l :=
 ⟨h.1, h.2.1, fun i c g hi hg => (h.2.2 i c g hi hg).mono hk⟩
theorem FsAt.lt {ok : Nat → Prop} {w : World} {L : List (List Value)} {l : List Fml} (h : FsAt ok w L l) : FsAt (fun b => ok b ∧ b < w.heap.size) w L l :=
 ⟨h.1, h.2.1, fun i c g hi hg => (h.2.2 i c g hi hg).lt⟩
theorem FAt.node {ok : Nat → Prop} {w : World} {av : Value} {L : List (List Value)} {l : List Fml} (op : Int) (name : List UInt8) (val bound : Int) (hS : Sl ok w av l.length L.flatten) (h : FsAt ok w L l) :
  FAt ok w (.agg #[.int .i64 op, AM name, .int .i64 val, .int .i64 bound, av]) ⟨op, name, val, bound, l⟩ := .mk op name val bound l av L hS h.1 h.2.1 h.2.2
theorem FAt.cells {ok : Nat → Prop} {w : World} {v : Value} {f : Fml} (h : FAt ok w v f) : ∃ c : List Value, v = .agg c.toArray ∧ c.length = 5 ∧ oneC c := by
 obtain ⟨av, rfl, L, hS, _⟩ := h.form
 obtain ⟨a, cap, rfl, _⟩ := hS
 refine ⟨_, rfl, rfl, ?_⟩
 intro u hu
 simp at hu
 rcases hu with rfl | rfl | rfl | rfl | rfl <;> rfl
structure Env where
 lo : Nat
 s : Nat
 n : Nat
 mp : Nat
 mi : Nat
abbrev inE (E : Env) (b : Nat) : Prop := E.lo ≤ b ∧ b < E.s
def oprV (o : Opr) : Value := .agg #[.int .i64 o.op, .int .i64 o.indexed, .int .i64 o.val]
def tabV (t : List (List UInt8 × Opr)) : List (List UInt8 × Value) := t.map fun p => (p.1, oprV p.2)
def TokWf (x : Tok) : Prop := x.kind = 2 → 1 ≤ x.text.length ∧ x.text.length ≤ 4 ∧ ∀ c ∈ x.text, A0 c = true
structure PSt (w : World) (E : Env) (ts : List Tok) : Prop where
 blk : ∃ a c, Blk w E.s 150 [.slice a ts.length c, .int .i64 (E.n : Int), .map (some E.mp), .map (some E.mi)] ∧ Sl (inE E) w (.slice a ts.length c) ts.length (toksC ts)
 pre : SMap w E.mp (tabV prefixT)
 inf : SMap w E.mi (tabV infixT)
 lt : E.mp < E.s ∧ E.mi < E.s
 wf : ∀ x ∈ ts, TokWf x
 cnt : ts.length ≤ 2000
theorem PSt.keep {X : List Nat} {w w' : World} {E : Env} {ts : List Tok} (h : PSt w E ts) (k : Keep X w w') (hX : ∀ x ∈ X, E.s < x) : PSt w' E ts := by
 obtain ⟨⟨a, c, h1, h2⟩, h3, h4, h5, h6, h7⟩ := h
 have hn : ∀ b, b ≤ E.s → b ∉ X := fun b hb hx => by have := hX b hx; omega
 exact ⟨⟨a, c, h1.keep k (hn _ (Nat.le_refl _)), h2.keep k fun b hb => hn b (by have := hb.2; omega)⟩, h3.keep k (hn _ (by omega)), h4.keep k (hn _ (by omega)), h5, h6, h7⟩
theorem PSt.ext {w w' : World} {E : Env} {ts : List Tok} (h : PSt w E ts) (k : Ext w w') : PSt w' E ts := h.keep k fun x hx => by cases hx
theorem PSt.slt {w : World} {E : Env} {ts : List Tok} (h : PSt w E ts) : E.s < w.heap.size := by obtain ⟨_, _, h1, _⟩ := h.blk; exact h1.lt
abbrev failP (e : Int) (p : Nat) : List PanicEntry := [{ v := .iface 145 (.agg #[.int .i64 e, .int .i64 (p : Int)]), recovered := false }]
def errV (n : Nat) : List Tok → List PanicEntry
 | [] => failP 51 n
 | x :: _ => failP 50 x.loc
def PDo {α : Type} (E : Env) (F : FuncId) (args : List Value) (w : World) (p : G α) (ts : List Tok) (Rep : World → Value → α → Prop) : Prop :=
 FnP Tryz.prog F args w (fun v w' => Keep [E.s] w w' ∧ ∃ a ts', Run p ts (.ok (a, ts')) ∧ PSt w' E ts' ∧ Rep w' v a) (fun ch w' => Keep [E.s] w w' ∧ ∃ l, Run p ts (.error l) ∧ ch = errV E.n l)
theorem PSt.tok {w : World} {E : Env} {x : Tok} {l : List Tok} {a : Option Addr} {c : Nat} (h : Sl (inE E) w (.slice a (x :: l).length c) (x :: l).length (toksC (x :: l))) :
  ∃ b o, a = some ⟨b, o, none⟩ ∧ 1 ≤ c ∧ (w.cell? ⟨b, o + 0 * 3 + 0, none⟩ = some (.int .i64 x.kind) ∧ w.cell? ⟨b, o + 0 * 3 + 1, none⟩ = some (AM x.text) ∧ w.cell? ⟨b, o + 0 * 3 + 2, none⟩ = some (.int .i64 (x.loc : Int))) ∧
   Sl (inE E) w (.slice (adv c 1 3 a) l.length (c - 1)) l.length (toksC l) := by
 obtain ⟨a', cap, hv, h1, h2, h3, h4⟩ := h
 cases hv
 obtain ⟨b, o, rfl, hb, hc⟩ := h4.resolve_left (by simp)
 have hl : (x :: l).length = l.length + 1 := rfl
 have e : toksC (x :: l) = tokC x ++ toksC l := by simp [toksC]
 refine ⟨b, o, rfl, by omega, ⟨hc 0 _ rfl, hc 1 _ rfl, hc 2 _ rfl⟩, _, _, rfl, by omega, by omega, ?_, ?_⟩
 ·intro ha
  unfold adv at ha
  split at ha
  ·cases ha
  ·simp at ha
 ·by_cases h0 : l.length = 0
  ·exact .inl h0
  ·refine .inr ⟨b, o + 3, ?_, hb, ?_⟩
   ·unfold adv
    rw [if_neg (by omega)]
    rfl
   ·intro i u hu
    have := hc (3 + i) u (by rw [e, List.getElem?_append_right (by simp [tokC])]; simpa [tokC] using hu)
    rw [Nat.add_assoc]; exact this
theorem PSt.taken {w w' : World} {E : Env} {x : Tok} {l : List Tok} {a : Option Addr} {c : Nat} (h : PSt w E (x :: l)) (hs : Sl (inE E) w (.slice (adv c 1 3 a) l.length (c - 1)) l.length (toksC l))
  (p : Put w w' E.s 150 [.slice (adv c 1 3 a) l.length (c - 1), .int .i64 (E.n : Int), .map (some E.mp), .map (some E.mi)]) : PSt w' E l := by
 obtain ⟨_, h3, h4, h5, h6, h7⟩ := h
 have h51 := h5.1
 have h52 := h5.2
 refine ⟨⟨_, _, p.blk, hs.keep p.keep fun b hb => by have := hb.2; simp; omega⟩, h3.keep p.keep (by simp; omega), h4.keep p.keep (by simp; omega), h5, fun y hy => h6 y (by simp [hy]), by simp at h7; omega⟩
theorem wrong_ok (E : Env) (w : World) (ts : List Tok) (h : PSt w E ts) {R : Value → World → Prop} : FnP Tryz.prog 91 [pt E.s] w R (fun ch w' => w' = w ∧ ch = errV E.n ts) := by
 obtain ⟨a, c, hb, hs⟩ := h.blk
 refine Aq Tryz.func91 rfl Tryz.ntmps91 (Nat.le_of_ble_eq_true rfl) (by kernel_rfl) ?_
 repeat refine nx rfl ?_
 cases ts with
 | nil =>
  have hl : ([] : List Tok).length = 0 := rfl
  (refine AA (AK rfl (AF rfl (AD rfl (AG rfl (Blk.cell (by assumption) (by rfl)) ?_)))) <;> refine As rfl (Av rfl rfl (by omega) ?_))
  repeat refine nx rfl ?_
  (refine AA (AK rfl (AF rfl (AD rfl (AG rfl (Blk.cell (by assumption) (by rfl)) ?_)))) <;> refine Ac (by rfl) (by rfl) ?_ <;> refine Cv (Cz rfl ?_))
  repeat refine nx rfl ?_
  exact AV ⟨rfl, rfl⟩
 | cons x l =>
  have hl : (x :: l).length = l.length + 1 := rfl
  obtain ⟨b, o, rfl, _, ⟨hc0, hc1, hc2⟩, _⟩ := PSt.tok hs
  (refine AA (AK rfl (AF rfl (AD rfl (AG rfl (Blk.cell (by assumption) (by rfl)) ?_)))) <;> refine As rfl (AL rfl rfl (by omega) ?_))
  repeat first | refine nx rfl ?_ | refine nf rfl ?_
  (refine AA (AK rfl (AF rfl (AD rfl (AG rfl (Blk.cell (by assumption) (by rfl)) ?_)))) <;> refine BI rfl rfl (by omega) (by omega) (AD rfl (AG rfl (by assumption) ?_)) <;> refine Ac (by rfl) (by rfl) ?_ <;> refine Cv (Cz rfl ?_))
  repeat refine nx rfl ?_
  exact AV ⟨rfl, rfl⟩
theorem sees_ok (E : Env) (w : World) (ts : List Tok) (t : List UInt8) (h : PSt w E ts) : Fn Tryz.prog 93 [pt E.s, AM t] w (fun v w' => v = .bool (B6 t (ts.head?.map bare)) ∧ w' = w) := by
 obtain ⟨a, c, hb, hs⟩ := h.blk
 refine Ad Tryz.func93 rfl Tryz.ntmps93 (Nat.le_of_ble_eq_true rfl) (by kernel_rfl) ?_
 repeat refine nx rfl ?_
 refine AA (AB (AC rfl ?_))
 repeat refine nx rfl ?_
 cases ts with
 | nil =>
  have hl : ([] : List Tok).length = 0 := rfl
  (refine AA (AK rfl (AF rfl (AD rfl (AG rfl (Blk.cell (by assumption) (by rfl)) ?_)))) <;> refine As rfl (W_gtrF rfl rfl (by omega) (AC rfl (AJ rfl (AJ rfl (AJ rfl (AJ rfl (AJ rfl (AJ rfl (AJ rfl (AJ rfl (AQ rfl (AC rfl (AC rfl (AJ rfl (AJ rfl (AJ rfl (AJ rfl (AJ rfl (AJ rfl (AJ rfl (AJ rfl (AJ rfl (AQ rfl (AC rfl (AB (AC rfl ?_)))))))))))))))))))))))))))
  repeat refine nx rfl ?_
  exact AP rfl ⟨rfl, rfl⟩
 | cons x l =>
  have hl : (x :: l).length = l.length + 1 := rfl
  obtain ⟨b, o, rfl, _, ⟨hc0, hc1, hc2⟩, _⟩ := PSt.tok hs
  by_cases hk : x.kind = 2
  ·(refine AA (AK rfl (AF rfl (AD rfl (AG rfl (Blk.cell (by assumption) (by rfl)) ?_)))) <;> refine As rfl (W_gtrT rfl rfl (by omega) (AC rfl (AE rfl (AK rfl (AE rfl (AF rfl (AE rfl (AD rfl (AE rfl (AG rfl (Blk.cell (by assumption) (by rfl)) ?_)))))))))) <;> refine AE rfl (BI rfl rfl (by omega) (by omega) (AE rfl (AD rfl (AE rfl (AG rfl (by assumption) ?_))))) <;> refine AE rfl (W_neqF rfl rfl (by omega) (AO rfl (AC rfl (AC rfl (AJ rfl (AJ rfl (AJ rfl (AJ rfl (AJ rfl (AJ rfl (AJ rfl (AJ rfl (AJ rfl (AQ rfl (AC rfl (AB (AC rfl ?_))))))))))))))))))
   repeat refine nx rfl ?_
   exact AP rfl ⟨by simp [upd, Nat.beq, B6, bare, hk], rfl⟩
  ·(refine AA (AK rfl (AF rfl (AD rfl (AG rfl (Blk.cell (by assumption) (by rfl)) ?_)))) <;> refine As rfl (W_gtrT rfl rfl (by omega) (AC rfl (AE rfl (AK rfl (AE rfl (AF rfl (AE rfl (AD rfl (AE rfl (AG rfl (Blk.cell (by assumption) (by rfl)) ?_)))))))))) <;> refine AE rfl (BI rfl rfl (by omega) (by omega) (AE rfl (AD rfl (AE rfl (AG rfl (by assumption) ?_))))) <;> refine AE rfl (W_neqT rfl rfl (by omega) (AO rfl (AC rfl (AC rfl (AE rfl (AK rfl (AE rfl (AF rfl (AE rfl (AD rfl (AE rfl (AG rfl (Blk.cell (by assumption) (by rfl)) ?_)))))))))))) <;> refine AE rfl (BI rfl rfl (by omega) (by omega) (AE rfl (AD rfl (AE rfl (AG rfl (by assumption) ?_))))) <;> refine AE rfl (AY rfl ?_) <;> (refine AE rfl ?_; refine CK rfl rfl (fun hc => ?_) (fun hc => ?_)) <;> refine AO rfl (AC rfl (AB (AC rfl ?_))))
   ·repeat refine nx rfl ?_
    exact AP rfl ⟨by simp_all [upd, Nat.beq, B6, bare], rfl⟩
   ·repeat refine nx rfl ?_
    exact AP rfl ⟨by simp_all [upd, Nat.beq, B6, bare], rfl⟩
end Go.Proofs.YtfcgdbmoncnibaaGreatDoor
namespace Go.Proofs.YtfcgdbmoncnibaaGreatDoor
open Go.RowKit
set_option linter.unusedVariables false
variable {mk : Prop} [MK mk]
def keyC : List Value := keysL.map AM
structure GK (w : World) : Prop where
 gv : GV w
 keys : Cells w 3 0 keyC
theorem GK.keep {X : List Nat} {w w' : World} (h : GK w) (k : Keep X w w') (hX : ∀ x ∈ X, 10 ≤ x) : GK w' :=
 ⟨h.gv.keep k (fun hx => by have := hX _ hx; omega) (fun hx => by have := hX _ hx; omega), h.keys.keep k (fun hx => by have := hX _ hx; omega)⟩
theorem GK.ext {w w' : World} (h : GK w) (k : Ext w w') : GK w' := h.keep k fun x hx => by cases hx
def okAt (i : Nat) (c : UInt8) : Bool := BK c || (decide (0 < i) && (A0 c || decide (c.toNat = 95)))
def shapeB (s : List UInt8) : Bool := BK (s.getD 0 0) && s.all restB
theorem shapeB_iff (s : List UInt8) (h : 1 ≤ s.length) : shapeB s = true ↔ ∀ (i : Nat) (c : UInt8), s[i]? = some c → okAt i c = true := by
 match s, h with
 | d :: s, _ =>
  simp only [shapeB, List.getD_eq_getElem?_getD, List.getElem?_cons_zero, Option.getD_some, Bool.and_eq_true, List.all_eq_true]
  constructor
  ·rintro ⟨h1, h2⟩ i c hc
   cases i with
   | zero => simp at hc; subst hc; simp [okAt, h1]
   | succ i =>
    have := h2 c (List.mem_of_getElem? hc)
    simp [restB] at this
    simp [okAt]
    rcases this with (h | h) | h
    ·exact .inl h
    ·exact .inr (.inl h)
    ·exact .inr (.inr h)
  ·intro h
   have h0 := h 0 d rfl
   simp [okAt] at h0
   refine ⟨h0, fun c hc => ?_⟩
   obtain ⟨i, hi⟩ := List.getElem?_of_mem hc
   have := h i c hi
   simp only [okAt, restB, Bool.or_eq_true, Bool.and_eq_true, decide_eq_true_eq] at this ⊢
   rcases this with h | ⟨_, h | h⟩
   ·exact .inl (.inl h)
   ·exact .inl (.inr h)
   ·exact .inr h
theorem Cs (s : List UInt8) : BS s = (decide (1 ≤ s.length) && decide (s.length ≤ 12) && shapeB s && !decide (s ∈ keysL)) := by
 unfold BS shapeB
 cases decide (1 ≤ s.length) <;> cases decide (s.length ≤ 12) <;> cases BK (s.getD 0 0) <;> cases s.all restB <;> rfl
theorem sigName_ok (s : List UInt8) (w : World) (hG : GK w) : Fn Tryz.prog 128 [AM s] w fun v w' => v = .bool (BS s) ∧ w' = w := by
 refine Ad Tryz.func128 rfl Tryz.ntmps128 (Nat.le_of_ble_eq_true rfl) (by kernel_rfl) ?_
 repeat refine nx rfl ?_
 refine AA (AB (AC rfl ?_))
 repeat refine nx rfl ?_
 by_cases h1 : s.length < 1
 ·refine AA (AY rfl (Bb rfl (BM rfl rfl (by omega) (AC rfl (AJ rfl (AJ rfl (AJ rfl (AO rfl (AC rfl ?_)))))))))
  repeat refine nx rfl ?_
  refine AA (AB (AC rfl ?_))
  repeat refine nx rfl ?_
  exact AP rfl ⟨by rw [Cs, decide_eq_false (show ¬ 1 ≤ s.length by omega)]; rfl, rfl⟩
 by_cases h12 : 12 < s.length
 ·refine AA (AY rfl (Bb rfl (BN rfl rfl (by omega) (AC rfl (AE rfl (AY rfl (AE rfl (Bb rfl (AE rfl (W_gtrT rfl rfl (by omega) (AQ rfl (AC rfl ?_))))))))))))
  repeat refine nx rfl ?_
  refine AA (AB (AC rfl ?_))
  repeat refine nx rfl ?_
  exact AP rfl ⟨by rw [Cs, decide_eq_false (show ¬ s.length ≤ 12 by omega)]; simp [upd, Nat.beq], rfl⟩
 refine AA (AY rfl (Bb rfl (BN rfl rfl (by omega) (AC rfl (AE rfl (AY rfl (AE rfl (Bb rfl (AE rfl (W_gtrF rfl rfl (by omega) (AQ rfl (AC rfl ?_))))))))))))
 repeat first | refine nx rfl ?_ | refine nf rfl ?_
 refine AA (AB (AC rfl ?_))
 repeat refine nx rfl ?_
 refine AA (AY rfl (Bb rfl (AH rfl ?_)))
 repeat refine nx rfl ?_
 refine BY (α := Nat) (fun k => [(0, AM s), (3, .bool true), (17, .int .i64 (s.length : Int)), (18, .int .i64 (k : Int))]) (fun k w1 => k ≤ s.length ∧ (∀ (i : Nat) (c : UInt8), i < k → s[i]? = some c → okAt i c = true) ∧ w1 = w) (fun k => s.length - k) 0 ⟨rfl, rfl, rfl, rfl, trivial⟩ ⟨by omega, fun i c hi => by omega, rfl⟩ ?_
 rintro k w1 f1 ⟨hk, hok, rfl⟩
 repeat refine nx rfl ?_
 by_cases hlt : k < s.length
 ·have hc0 : s[k]? = some s[k] := List.getElem?_eq_getElem hlt
  generalize s[k] = c at hc0
  have cb := c.toNat_lt
  have step : okAt k c = true → ∀ (i : Nat) (d : UInt8), i < k + 1 → s[i]? = some d → okAt i d = true := fun hkc i d hi hd => by
   by_cases hik : i = k
   ·subst hik; rw [hc0] at hd; cases hd; exact hkc
   ·exact hok i d (by omega) hd
  refine AA (BM rfl rfl (by omega) ?_)
  repeat refine nx rfl ?_
  refine AA (AH rfl (AB (AH rfl ?_)))
  repeat refine nx rfl ?_
  (refine AA (AY rfl (AH rfl (Be rfl rfl (by assumption) ?_))) <;> refine AB (AH rfl ?_))
  repeat refine nx rfl ?_
  by_cases hs : 97 ≤ c.toNat ∧ c.toNat ≤ 122
  ·have hkc : okAt k c = true := by simp [okAt, BK, hs.1, hs.2]
   refine AA (AH rfl (W_leqT rfl rfl (by omega) (AC rfl (AE rfl (AH rfl (AE rfl (W_leqT rfl rfl (by omega) (AO rfl (AC rfl (AB (AC rfl ?_)))))))))))
   repeat refine nx rfl ?_
   (refine AA (BR rfl rfl (by first | exact Al (by omega) (by omega) | exact At (by omega) (by omega) | exact Am (by omega) (by omega)) ?_) <;> refine AH rfl ?_)
   repeat refine nx rfl ?_
   refine ⟨k + 1, ⟨rfl, ⟨rfl, rfl, rfl, ?_, trivial⟩, ⟨by omega, step hkc, rfl⟩⟩, by omega⟩
   show Value.int .i64 ((k : Int) + 1) = _
   rw [Int.natCast_add]; rfl
  ·have hns : BK c = false := by simp [BK]; omega
   by_cases hr : 0 < k ∧ ((48 ≤ c.toNat ∧ c.toNat ≤ 57) ∨ c.toNat = 95)
   ·have hkc : okAt k c = true := by
     simp only [okAt, A0, Bool.or_eq_true, Bool.and_eq_true, decide_eq_true_eq]
     exact .inr hr
    refine AA (AH rfl (W_leqF rfl rfl (by omega) (AC rfl (AJ rfl (AJ rfl (AQ rfl (AC rfl (AB (AC rfl (AI ?_))))))))))
    all_goals
     repeat first | refine nx rfl ?_ | refine nf rfl ?_
     (refine AA (AH rfl (W_gtrT rfl rfl (by omega) (AC rfl (AE rfl (AH rfl (AE rfl (W_leqT rfl rfl (by omega) (AE rfl (AC rfl (AE rfl (AH rfl ?_))))))))))) <;> (refine AE rfl ?_; (refine W_leq rfl rfl (fun hc => ?_) (fun hc => ?_) <;> try omega)) <;> refine AE rfl (AO rfl (AC rfl (AE rfl (AC rfl ?_)))) <;> (first | refine AJ rfl ?_ | (refine AE rfl ?_; refine AH rfl ?_)) <;> (first | refine AJ rfl ?_ | (refine AE rfl ?_; refine Av rfl rfl (by omega) ?_)) <;> (refine AE rfl ?_; ((first | refine AO rfl ?_ | refine AQ rfl ?_); refine AC rfl ?_)) <;> refine AO rfl (AC rfl (AB (AC rfl (AI ?_)))))
     all_goals
      repeat refine nx rfl ?_
      (refine AA (BR rfl rfl (by first | exact Al (by omega) (by omega) | exact At (by omega) (by omega) | exact Am (by omega) (by omega)) ?_) <;> refine AH rfl ?_)
      repeat refine nx rfl ?_
      refine ⟨k + 1, ⟨rfl, ⟨rfl, rfl, rfl, ?_, trivial⟩, ⟨by omega, step hkc, rfl⟩⟩, by omega⟩
      show Value.int .i64 ((k : Int) + 1) = _
      rw [Int.natCast_add]; rfl
   ·have hsh : shapeB s = false := by
     cases hsb : shapeB s with
     | false => rfl
     | true =>
      have := (shapeB_iff s (by omega)).1 hsb k c hc0
      simp only [okAt, hns, A0, Bool.false_or, Bool.or_eq_true, Bool.and_eq_true, decide_eq_true_eq] at this
      exact absurd this hr
    (refine AA (AH rfl ?_) <;> (refine W_leq rfl rfl (fun hc => ?_) (fun hc => ?_) <;> try omega) <;> refine AC rfl ?_ <;> (first | refine AJ rfl ?_ | (refine AE rfl ?_; refine AH rfl ?_)) <;> (first | refine AJ rfl ?_ | (refine AE rfl ?_; refine W_leqF rfl rfl (by omega) ?_)) <;> ((first | refine AO rfl ?_ | refine AQ rfl ?_); refine AC rfl ?_) <;> refine AB (AC rfl (AI ?_)))
    all_goals
     repeat first | refine nx rfl ?_ | refine nf rfl ?_
     (refine AA (AH rfl ?_) <;> (refine W_gtr rfl rfl (fun hc => ?_) (fun hc => ?_) <;> try omega) <;> refine AC rfl ?_ <;> (first | refine AJ rfl ?_ | (refine AE rfl ?_; refine AH rfl ?_)) <;> (first | refine AJ rfl ?_ | (refine AE rfl ?_; (refine W_leq rfl rfl (fun hc => ?_) (fun hc => ?_) <;> try omega))) <;> (first | refine AJ rfl ?_ | (refine AE rfl ?_; refine AC rfl ?_)) <;> (first | refine AJ rfl ?_ | (refine AE rfl ?_; refine AH rfl ?_)) <;> (first | refine AJ rfl ?_ | (refine AE rfl ?_; refine W_leqF rfl rfl (by omega) ?_)) <;> (first | refine AJ rfl ?_ | (refine AE rfl ?_; ((first | refine AO rfl ?_ | refine AQ rfl ?_); refine AC rfl ?_))) <;> (first | refine AJ rfl ?_ | (refine AE rfl ?_; refine AC rfl ?_)) <;> (first | refine AJ rfl ?_ | (refine AE rfl ?_; refine AH rfl ?_)) <;> (first | refine AJ rfl ?_ | (refine AE rfl ?_; refine AL rfl rfl (by omega) ?_)) <;> (first | refine AJ rfl ?_ | (refine AE rfl ?_; (refine AQ rfl ?_; refine AC rfl ?_))) <;> ((first | refine AO rfl ?_ | refine AQ rfl ?_); refine AC rfl ?_) <;> refine AB (AC rfl (AI ?_)))
     all_goals
      repeat first | refine nx rfl ?_ | refine nf rfl ?_
      refine AA (AB (AC rfl ?_))
      repeat refine nx rfl ?_
      refine AA (AZ (L := keyC) rfl rfl hG.keys ?_)
      refine AH rfl ?_
      repeat refine nx rfl ?_
      refine BY (α := Nat) (fun k => [(0, AM s), (3, .bool false), (47, .agg keyC.toArray), (48, .int .i64 (k : Int))]) (fun k W => k ≤ 10 ∧ s ∉ keysL.take k ∧ W = w1) (fun k => 10 - k) 0 ⟨rfl, rfl, rfl, rfl, trivial⟩ ⟨by omega, by simp, rfl⟩ ?_
      rintro k w2 f2 ⟨hk, hn, rfl⟩
      repeat refine nx rfl ?_
      by_cases hlt : k < 10
      ·obtain ⟨y, hy⟩ : ∃ y, keysL[k]? = some y := ⟨_, List.getElem?_eq_getElem (by show k < 10; exact hlt)⟩
       have hyc : keyC[k]? = some (AM y) := by unfold keyC; rw [List.getElem?_map, hy]; rfl
       have ht1 : keysL.take (k + 1) = keysL.take k ++ [y] := by rw [List.take_add_one, hy]; rfl
       refine AA (BM rfl rfl (by omega) ?_)
       repeat refine nx rfl ?_
       refine AA ?_
       refine W_vidx1 (L := keyC) rfl rfl (by omega) hyc ?_
       refine AB (AY rfl ?_)
       repeat refine nx rfl ?_
       by_cases hys : y = s
       ·(refine AA (AY rfl (AY rfl ?_)) <;> refine CK rfl rfl (fun hc => ?_) (fun hc => ?_) <;> refine AI ?_)
        case refine_2 => exact absurd hys (by assumption)
        repeat refine nx rfl ?_
        refine AA (AB (AC rfl ?_))
        repeat refine nx rfl ?_
        exact AP rfl ⟨by rw [Cs, decide_eq_true (List.mem_of_getElem? (hys ▸ hy) : s ∈ keysL)]; simp [upd, Nat.beq], rfl⟩
       ·(refine AA (AY rfl (AY rfl ?_)) <;> refine CK rfl rfl (fun hc => ?_) (fun hc => ?_) <;> refine AI ?_)
        case refine_1 => exact absurd (by assumption) hys
        repeat first | refine nx rfl ?_ | refine nf rfl ?_
        (refine AA (BR rfl rfl (by first | exact Al (by omega) (by omega) | exact At (by omega) (by omega) | exact Am (by omega) (by omega)) ?_) <;> refine AH rfl ?_)
        repeat refine nx rfl ?_
        refine ⟨k + 1, ⟨rfl, ⟨rfl, rfl, rfl, ?_, trivial⟩, ⟨by omega, by rw [ht1]; simp [hn]; exact fun e => hys e.symm, rfl⟩⟩, by omega⟩
        show Value.int .i64 ((k : Int) + 1) = _
        rw [Int.natCast_add]; rfl
      ·obtain rfl : k = 10 := by omega
       refine AA (BN rfl rfl (by omega) ?_)
       repeat first | refine nx rfl ?_ | refine nf rfl ?_
       refine AA (AC rfl (AB (AC rfl ?_)))
       repeat refine nx rfl ?_
       have hn' : s ∉ keysL := hn
       exact AP rfl ⟨by rw [Cs, hsh, decide_eq_false hn', decide_eq_true (show 1 ≤ s.length by omega), decide_eq_true (show s.length ≤ 12 by omega)]; rfl, rfl⟩
 ·obtain rfl : k = s.length := by omega
  have hsh : shapeB s = true := (shapeB_iff s (by omega)).2 fun i c hc => hok i c (List.getElem?_eq_some_iff.1 hc).1 hc
  refine AA (BN rfl rfl (by omega) ?_)
  repeat first | refine nx rfl ?_ | refine nf rfl ?_
  refine AA (AZ (L := keyC) rfl rfl hG.keys ?_)
  refine AH rfl ?_
  repeat refine nx rfl ?_
  refine BY (α := Nat) (fun k => [(0, AM s), (3, .bool true), (47, .agg keyC.toArray), (48, .int .i64 (k : Int))]) (fun k W => k ≤ 10 ∧ s ∉ keysL.take k ∧ W = w1) (fun k => 10 - k) 0 ⟨rfl, rfl, rfl, rfl, trivial⟩ ⟨by omega, by simp, rfl⟩ ?_
  rintro k w2 f2 ⟨hk, hn, rfl⟩
  repeat refine nx rfl ?_
  by_cases hlt : k < 10
  ·obtain ⟨y, hy⟩ : ∃ y, keysL[k]? = some y := ⟨_, List.getElem?_eq_getElem (by show k < 10; exact hlt)⟩
   have hyc : keyC[k]? = some (AM y) := by unfold keyC; rw [List.getElem?_map, hy]; rfl
   have ht1 : keysL.take (k + 1) = keysL.take k ++ [y] := by rw [List.take_add_one, hy]; rfl
   refine AA (BM rfl rfl (by omega) ?_)
   repeat refine nx rfl ?_
   refine AA ?_
   refine W_vidx1 (L := keyC) rfl rfl (by omega) hyc ?_
   refine AB (AY rfl ?_)
   repeat refine nx rfl ?_
   by_cases hys : y = s
   ·(refine AA (AY rfl (AY rfl ?_)) <;> refine CK rfl rfl (fun hc => ?_) (fun hc => ?_) <;> refine AI ?_)
    case refine_2 => exact absurd hys (by assumption)
    repeat refine nx rfl ?_
    refine AA (AB (AC rfl ?_))
    repeat refine nx rfl ?_
    exact AP rfl ⟨by rw [Cs, decide_eq_true (List.mem_of_getElem? (hys ▸ hy) : s ∈ keysL)]; simp [upd, Nat.beq], rfl⟩
   ·(refine AA (AY rfl (AY rfl ?_)) <;> refine CK rfl rfl (fun hc => ?_) (fun hc => ?_) <;> refine AI ?_)
    case refine_1 => exact absurd (by assumption) hys
    repeat first | refine nx rfl ?_ | refine nf rfl ?_
    (refine AA (BR rfl rfl (by first | exact Al (by omega) (by omega) | exact At (by omega) (by omega) | exact Am (by omega) (by omega)) ?_) <;> refine AH rfl ?_)
    repeat refine nx rfl ?_
    refine ⟨k + 1, ⟨rfl, ⟨rfl, rfl, rfl, ?_, trivial⟩, ⟨by omega, by rw [ht1]; simp [hn]; exact fun e => hys e.symm, rfl⟩⟩, by omega⟩
    show Value.int .i64 ((k : Int) + 1) = _
    rw [Int.natCast_add]; rfl
  ·obtain rfl : k = 10 := by omega
   refine AA (BN rfl rfl (by omega) ?_)
   repeat first | refine nx rfl ?_ | refine nf rfl ?_
   refine AA (AC rfl (AB (AC rfl ?_)))
   repeat refine nx rfl ?_
   have hn' : s ∉ keysL := hn
   exact AP rfl ⟨by rw [Cs, hsh, decide_eq_false hn', decide_eq_true (show 1 ≤ s.length by omega), decide_eq_true (show s.length ≤ 12 by omega)]; rfl, rfl⟩
end Go.Proofs.YtfcgdbmoncnibaaGreatDoor
namespace Go.Proofs.YtfcgdbmoncnibaaGreatDoor
open Go.RowKit
variable {mk : Prop} [MK mk]
attribute [local semireducible] WC AU Bv BQ Bx Cr C5 Bp
variable {P : Program} {all : Array Oper} {Z : Fr → DS → List PanicEntry → World → Prop} {K : Fr → DS → World → Prop} {rest : List Oper} {f : Fr} {ds : DS} {w : World}
 {d : Nat} {ty : TypeId} {pos : String} {af : Array Edge}
theorem bytes_unm (w : World) (e : TypeId) (s : ByteArray) : Unm (Lib.bytesWorld w e s) w.heap.size := fun c t fr h => by
 rw [Lib.bytesWorld_at_new] at h
 simp only [Option.some.injEq, Obj.cells.injEq] at h
 obtain ⟨rfl, _, _⟩ := h
 refine .inr fun i v hv => ?_
 have hm := Array.mem_of_getElem? hv
 unfold Lib.bytesCells at hm
 rcases Array.mem_append.1 hm with hm | hm
 ·obtain ⟨b, _, rfl⟩ := Array.mem_map.1 hm
  exact ⟨_, rfl⟩
 ·exact ⟨0, Array.eq_of_mem_replicate hm⟩
theorem W_strb {src dst e size bytes : Nat} {z : Value} {x : Operand} {l : List UInt8} [hs : SlT P dst e size bytes z] [he : IntT P e .u8] [hd : StrT P src] (hx : ev f x = AM l)
  (h : ∀ w' cap, Ext w w' → w'.heap.size = w.heap.size + 1 → Cells w' w.heap.size 0 (Ck l) → AU P all Z K rest (upd f d (.slice (some ⟨w.heap.size, 0, none⟩) l.length cap)) ds w') :
  AU P all Z K (⟨some d, .convert src dst x, ty, pos, af, none⟩ :: rest) f ds w := by
 have hr := Lib.run_convert_string_bytes (P := P) w src dst e ⟨l.toArray⟩ hd.out hs.und he.out
 have hn : (⟨l.toArray⟩ : ByteArray).size = l.length := by simp [ByteArray.size]
 rw [hn] at hr
 refine A3 (v := .slice (some ⟨w.heap.size, 0, none⟩) l.length (grownCap w l.length 0 e)) (w' := Lib.bytesWorld w e ⟨l.toArray⟩) rfl ?_ (h _ _ ⟨rfl, rfl, rfl, ?_, fun b hb _ => Lib.bytesWorld_at_old w e _ b hb, fun _ => mark_new (by rw [Lib.bytesWorld_size]; omega) (fun b hb => Lib.bytesWorld_at_old w e _ b hb) (bytes_unm w e _)⟩ (Lib.bytesWorld_size w e _) ?_)
 ·simp only [execOp, hx]
  simp [hr]
 ·rw [Lib.bytesWorld_size]; omega
 ·intro i u hu
  have hi : i < l.length := by
   have := (List.getElem?_eq_some_iff.1 hu).1
   simpa [Ck] using this
  have := Lib.bytesWorld_cell w e ⟨l.toArray⟩ i (by rw [hn]; exact hi)
  rw [Nat.zero_add, this]
  rw [cells8_get hi] at hu
  rw [← hu]
  simp [enc8, List.getD_eq_getElem?_getD]
class IfT (P : Program) (T : TypeId) : Prop where
 out : ∃ ms, P.underlying T = some (.interface ms)
theorem W_nilneq {xt yt : TypeId} {x : Operand} [hT : IfT P xt] (hx : ev f x = .nilIface) (h : AU P all Z K rest (upd f d (.bool false)) ds w) :
  AU P all Z K (⟨some d, .binOp .neq xt x (.const .nilIface) yt, ty, pos, af, none⟩ :: rest) f ds w := by
 obtain ⟨ms, h1⟩ := hT.out
 refine A3 rfl ?_ h
 have hq : (Op.equalIn Op.maxDepth xt .nilIface .nilIface).run P w = .ok true w := by
  rw [show Op.maxDepth = 9999 + 1 from rfl]
  generalize 9999 = n
  unfold Op.equalIn
  simp [run_underlying h1]
 have hy : ev f (.const .nilIface) = .nilIface := rfl
 simp [execOp, hx, hy, eqGuard, binOp, Op.equal, hq]
end Go.Proofs.YtfcgdbmoncnibaaGreatDoor
namespace Go.Proofs.YtfcgdbmoncnibaaGreatDoor
open Go.RowKit
set_option linter.unusedVariables false
variable {mk : Prop} [MK mk]
instance : IfT Tryz.prog 182 := ⟨_, Tryz.underlying182⟩
def topN : Nat → Int
 | 0 => 0
 | k + 1 => 10 * topN k + 9
theorem topN_le {k : Nat} (h : k ≤ 4) : topN k ≤ 9999 := by
 match k, h with
 | 0, _ => decide
 | 1, _ => decide
 | 2, _ => decide
 | 3, _ => decide
 | 4, _ => decide
 | k + 5, h => omega
theorem numOf_snoc (l : List UInt8) (c : UInt8) : numOf (l ++ [c]) = 10 * numOf l + ((c.toNat : Int) - 48) := by simp [numOf]
theorem numOf_le : ∀ (k : Nat) (l : List UInt8), l.length = k → (∀ c ∈ l, A0 c = true) → 0 ≤ numOf l ∧ numOf l ≤ topN k
 | 0, l, hl, _ => by
  obtain rfl := List.eq_nil_of_length_eq_zero hl
  exact ⟨by decide, by decide⟩
 | k + 1, l, hl, hd => by
  have hne : l ≠ [] := fun e => by subst e; simp at hl
  have e := List.dropLast_concat_getLast hne
  have ih := numOf_le k l.dropLast (by simp [hl]) (fun c hc => hd c (List.dropLast_subset _ hc))
  have hc := hd _ (List.getLast_mem hne)
  generalize l.getLast hne = c at hc e
  rw [← e, numOf_snoc]
  simp [A0] at hc
  unfold topN
  omega
theorem atoi_ok (s : List UInt8) (w : World) (h1 : 1 ≤ s.length) (h4 : s.length ≤ 4) (hd : ∀ c ∈ s, A0 c = true) : Fn Tryz.prog 162 [AM s] w fun v w' => v = .tuple #[.int .i64 (numOf s), .nilIface] ∧ Ext w w' := by
 have hc0 : s[0]? = some s[0] := List.getElem?_eq_getElem (by omega)
 have hd0 := hd s[0] (List.getElem_mem _)
 generalize s[0] = c0 at hc0 hd0
 simp [A0] at hd0
 refine Ad Tryz.func162 rfl Tryz.ntmps162 (Nat.le_of_ble_eq_true rfl) (by kernel_rfl) ?_
 repeat refine nx rfl ?_
 refine AA (AB (AH rfl (AB (Ax ?_))))
 repeat refine nx rfl ?_
 refine AA (AY rfl (Bb rfl (AB (AH rfl ?_))))
 repeat refine nx rfl ?_
 refine AA (AC rfl (AJ rfl (AJ rfl (AJ rfl (AJ rfl (AJ rfl (AJ rfl (AQ rfl (AC rfl (AC rfl (AE rfl (AC rfl (AE rfl (AH rfl (AE rfl (BM rfl rfl (by omega) (AE rfl (AC rfl (AE rfl (AH rfl (AE rfl (BM rfl rfl (by omega) (AE rfl (AO rfl (AC rfl (AE rfl (AO rfl (AC rfl (AQ rfl (AC rfl ?_))))))))))))))))))))))))))))))
 repeat refine nx rfl ?_
 refine AA (AY rfl (AB (AY rfl ?_)))
 repeat refine nx rfl ?_
 refine AA (AY rfl ?_)
 refine Be (j := 0) rfl rfl hc0 ?_
 refine AL rfl rfl (by omega) (AC rfl (AE rfl (AY rfl ?_)))
 refine AE rfl (Be (j := 0) rfl rfl hc0 ?_)
 refine AE rfl (AL rfl rfl (by omega) (AQ rfl (AC rfl ?_)))
 repeat first | refine nx rfl ?_ | refine nf rfl ?_
 refine AA (AB (AH rfl ?_))
 repeat refine nx rfl ?_
 refine AA (AY rfl ?_)
 refine W_strb rfl (fun w1 cap k1 z1 b1 => ?_)
 refine As rfl (AH rfl ?_)
 repeat refine nx rfl ?_
 refine BY (α := Nat) (fun k => [(5, AM s), (6, .int .i64 (numOf (s.take k))), (47, .slice (some ⟨w.heap.size, 0, none⟩) s.length cap), (48, .int .i64 (s.length : Int)), (49, .int .i64 (k : Int))]) (fun k w2 => k ≤ s.length ∧ w2 = w1) (fun k => s.length - k) 0 ⟨rfl, rfl, rfl, rfl, rfl, trivial⟩ ⟨by omega, rfl⟩ ?_
 rintro k w2 f2 ⟨hk, rfl⟩
 repeat refine nx rfl ?_
 by_cases hlt : k < s.length
 ·have hck : s[k]? = some s[k] := List.getElem?_eq_getElem hlt
  have hdk := hd s[k] (List.getElem_mem _)
  generalize s[k] = c at hck hdk
  simp [A0] at hdk
  have hb : w2.cell? ⟨w.heap.size, 0 + k, none⟩ = some (.int .u8 (c.toNat : Int)) := b1 k _ (by simp [Ck, hck, enc8])
  have et : s.take (k + 1) = s.take k ++ [c] := by rw [List.take_add_one, hck]; rfl
  have hn := numOf_le k (s.take k) (by simp; omega) (fun c hc => hd c (List.take_subset _ _ hc))
  have hk4 := topN_le (k := k) (by omega)
  refine AA (BM rfl rfl (by omega) ?_)
  repeat refine nx rfl ?_
  (refine AA (W_idx1 rfl rfl rfl (by omega) (AG rfl (by assumption) ?_)) <;> refine AB (AH rfl ?_))
  repeat refine nx rfl ?_
  (refine AA (AH rfl (W_sub rfl rfl (by first | exact Al (by omega) (by omega) | exact At (by omega) (by omega) | exact Am (by omega) (by omega)) ?_)) <;> refine AB (AH rfl ?_))
  repeat refine nx rfl ?_
  refine AA (AH rfl (W_gtrF rfl rfl (by omega) ?_))
  repeat first | refine nx rfl ?_ | refine nf rfl ?_
  (refine AA (AH rfl (W_mul rfl rfl (by first | exact Al (by omega) (by omega) | exact At (by omega) (by omega) | exact Am (by omega) (by omega)) ?_)) <;> refine AH rfl (W_conv rfl (by first | exact Al (by omega) (by omega) | exact At (by omega) (by omega) | exact Am (by omega) (by omega)) ?_) <;> refine BR rfl rfl (by first | exact Al (by omega) (by omega) | exact At (by omega) (by omega) | exact Am (by omega) (by omega)) ?_ <;> refine AB (AH rfl ?_))
  repeat refine nx rfl ?_
  (refine AA (BR rfl rfl (by first | exact Al (by omega) (by omega) | exact At (by omega) (by omega) | exact Am (by omega) (by omega)) ?_) <;> refine AH rfl ?_)
  repeat refine nx rfl ?_
  refine ⟨k + 1, ⟨rfl, ⟨rfl, ?_, rfl, rfl, ?_, trivial⟩, ⟨by omega, rfl⟩⟩, by omega⟩
  ·rw [et, numOf_snoc, Int.mul_comm 10]; rfl
  ·show Value.int .i64 ((k : Int) + 1) = _
   rw [Int.natCast_add]; rfl
 ·obtain rfl : k = s.length := by omega
  refine AA (BN rfl rfl (by omega) ?_)
  repeat first | refine nx rfl ?_ | refine nf rfl ?_
  refine AA (AY rfl ?_)
  refine Be (j := 0) rfl rfl hc0 ?_
  refine AL rfl rfl (by omega) ?_
  repeat first | refine nx rfl ?_ | refine nf rfl ?_
  refine AA (AH rfl (AB (AH rfl (AB (Ax ?_)))))
  repeat refine nx rfl ?_
  exact fin_ret2 rfl ⟨by rw [List.take_length]; rfl, k1⟩
theorem Atoi_ok (s : List UInt8) (w : World) (h1 : 1 ≤ s.length) (h4 : s.length ≤ 4) (hd : ∀ c ∈ s, A0 c = true) : Fn Tryz.prog 155 [AM s] w fun v w' => v = .tuple #[.int .i64 (numOf s), .nilIface] ∧ Ext w w' := by
 refine Ad Tryz.func155 rfl Tryz.ntmps155 (Nat.le_of_ble_eq_true rfl) (by kernel_rfl) ?_
 repeat refine nx rfl ?_
 refine AA (AB (AH rfl (AB (Ax ?_))))
 repeat refine nx rfl ?_
 refine AA (AY rfl ?_)
 refine AS (atoi_ok s w h1 h4 hd) rfl ?_
 rintro v w1 ⟨rfl, k1⟩
 refine Bn rfl (Af rfl rfl (Af rfl rfl (AB (AH rfl (AB (Ax ?_))))))
 repeat refine nx rfl ?_
 refine AA (Ax ?_)
 refine W_nilneq rfl ?_
 repeat first | refine nx rfl ?_ | refine nf rfl ?_
 refine AA (AH rfl (AB (AH rfl (AB (Ax ?_)))))
 repeat refine nx rfl ?_
 exact fin_ret2 rfl ⟨rfl, k1⟩
end Go.Proofs.YtfcgdbmoncnibaaGreatDoor
