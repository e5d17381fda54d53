/- TopGoalsGoOn, part 12 of 16: rules, lemmas, walks. Conditions: none. -/
import Derived.Test.YtohodbnnhlddpaaGreatDoorQZ11
namespace Go.Proofs.YtohodbnnhlddpaaGreatDoor
open Go.RowKit
set_option linter.unusedVariables false
def fmOk (S : List Sgn) (f : Fml) : Bool := A6 S && validG f && allNd (ndOk S) f && decide ((CQ f).2 = 0)
theorem gtyping_ok (w : World) (M : Option Addr) (sc : Nat) (S : List Sgn) (v : Value) (f : Fml) (hS : SlAt sgnR AZ w (.slice M S.length sc) S) (hf : FAt AZ w v f) (hG : GF w) (hK : KY w) (hN : 10 ≤ w.heap.size) :
  Fn Zp 93 [.slice M S.length sc, v] w fun u w' => ∃ e : Int, u = iV e ∧ Ext w w' ∧ (e = 0 ↔ fmOk S f = true) := by
 have b1 := hf.lt;obtain ⟨c, rfl, a9, c2⟩ := hf.cells;obtain ⟨x0, x1, x2, x3, x4, rfl⟩ := AX a9;unfold fmOk;refine Cx Tryz.func93 rfl Tryz.ntmps93 nlr Dk (go ?_);refine Aj (L := [.slice M S.length sc]) rfl (fun w1 n1 => ?_);refine Aj (L := [x0, x1, x2, x3, x4]) rfl (fun K n2 => ?_);refine AQ (fun w3 n3 => ?_);have z1 := n1.size;have z2 := n2.size;have z3 := n3.size;have a3 := n2.E.trans n3.E;have k3 : Ext w w3 := n1.E.trans a3;have bs := n1.D.E a3 O;have bf := n2.D.E n3.E O;have be : Blk w3 K.heap.size 43 [iV 0] := n3.D;refine go ?_;refine AC (Dj w3 _ S (hS.ext k3) (hK.E k3 O)) rfl ?_;rintro _ w4 ⟨rfl, k4⟩;have z4 := k4.size;have E := k3.trans k4;have b9 := bf.E k4 O;have a8 := be.E k4 O;cases hv : A6 S with
 | false =>
  refine go ?_;refine AN (v := iV 1) rfl rfl rfl (a8) O (fun Z y => go ?_);exact BA (A9 rfl (y.D.cell (o := 0) rfl) ⟨1, rfl, E.E y.E Dl, by simp⟩)
 | true =>
 refine go ?_;refine AC (fvalid_ok w4 _ f (hf.ext E) (hG.ext E) (hK.E E O) (Nat.le_trans hN E.size)) rfl ?_;rintro _ w5 ⟨rfl, k5⟩;have z5 := k5.size;have e5 := E.trans k5;have a1 := k4.trans k5;have B := bs.E a1 O;have q := bf.E a1 O;have N := be.E a1 O;cases hvf : validG f with
 | false =>
  refine go ?_;refine AN (v := iV 30) rfl rfl rfl (N) O (fun Z y => go ?_);exact BA (A9 rfl (y.D.cell (o := 0) rfl) ⟨30, rfl, e5.E y.E Dl, by simp⟩)
 | true =>
 obtain ⟨b5, c0, _⟩ := valid_okN hvf;simp only [Bool.true_and];refine go ?_;refine AC (gnodes_ok w5 w1.heap.size 0) rfl ?_;rintro _ T ⟨rfl, G⟩;refine go ?_;have z6 := G.size;have b6 := G.D;have e6 := e5.trans G.E;replace B := B.E G.E O;replace q := q.E G.E O;replace N := N.E G.E O;refine C_range [] [pt w5.heap.size] rfl Dk fun a7 b8 a6 X P n s7 m7 r7 => ?_;replace b6 := b6.E n O;replace B := B.E n O;replace q := q.E n O;replace N := N.E n O;have e7 := e6.trans n;have hp7 : PF (fun b => b ∉ [K.heap.size, T.heap.size + 1] ∧ b < X.heap.size) X w1.heap.size 0 f := ⟨by simp; omega, _, rfl, q.cells, (b1.ext e7).mono fun b hb => by have := hb.2; simp; omega⟩;obtain ⟨a0, m⟩ : ∃ a0 : World → Prop, ∀ W, a0 W ↔ (Ext w W ∧ Blk W w.heap.size 22 [.slice M S.length sc] ∧ Blk W w1.heap.size 36 [x0, x1, x2, x3, x4] ∧ Blk W K.heap.size 43 [iV 0] ∧ a7 W ∧ W.heap[T.heap.size]? = some (.deferred (some [])) ∧ X.heap.size ≤ W.heap.size) := ⟨_, fun _ => Iff.rfl⟩;obtain ⟨D, hD⟩ : ∃ D : World → Prop, ∀ W, D W ↔ (Ext w W ∧ (∃ e : Int, e ≠ 0 ∧ Blk W K.heap.size 43 [iV e]) ∧ a6 .ret W ∧ W.heap[T.heap.size]? = some (.deferred (some [])) ∧ X.heap.size ≤ W.heap.size) := ⟨_, fun _ => Iff.rfl⟩
 have H : TnG (.func (.yield (T.heap.size + 1)) #[] #[]) [K.heap.size, T.heap.size + 1] X.heap.size 60 (ndOk S) a0 D := by
  refine ⟨⟨_, rfl⟩, fun i k => ?_, fun {W b o x} i hp hz => ?_⟩
  ·obtain ⟨t, p, Q, g, j, s, j7⟩ := (m _).1 i;exact (m _).2 ⟨t.trans k, p.E k O, Q.E k O, g.E k O, P.rdy j k O, (k.block _ U O).trans s, Nat.le_trans j7 k.size⟩
  ·obtain ⟨t, p, Q, g, j, s, j7⟩ := (m _).1 i;refine YldP.mono (R := fun v W' => v = .bool (ndOk S x) ∧ Keep [K.heap.size, T.heap.size + 1] W W' ∧ if ndOk S x = true then a0 W' else D W') (Y := fun _ _ => False) (P.round j rfl ?_) (fun v W' h => h) (fun _ _ h => h);refine go ?_;refine ⟨j, fun W2 z c5 y2 => ?_⟩;have e2 := t.E z Dl;replace p := p.E z Dl;replace Q := Q.E z Dl;replace g := g.E z Dl;replace s := (z.block _ U O).trans s;have b3 := (hp.E z (fun b h => by have := h.1; simp at this ⊢; omega)).mono (ok' := AZ) (fun _ _ => trivial);have c1 := dp_sz x;refine go ?_;refine AC (gnodeErr_ok W2 M sc S b o x (hS.ext e2) b3 (hG.ext e2) (Nat.le_trans hN e2.size) U) rfl ?_;rintro _ W3 ⟨e, rfl, I, he⟩;have q3 := z.trans I (fun x h => by cases h);have zq := q3.size;by_cases l : e = 0
   ·have V := he.1 l;subst l;refine go ?_;refine Q_rnd (P.bsy y2 I O) fun W4 C s4 y4 => ⟨by rw [V], (q3.trans C (fun x h _ => h)).mono (fun x V => by simp at V; simp [V]), (if_pos V).mpr <| (m _).2 ⟨(e2.trans I).E C Dl, (p.E I O).E C Dl, (Q.E I O).E C Dl, (g.E I O).E C Dl, y4, (C.block _ U O).trans ((I.block _ U O).trans s), by omega⟩⟩
   ·have V : ndOk S x = false := by rw [← Bool.not_eq_true, ← he]; exact l
    refine go ?_;refine AN (v := iV e) rfl rfl rfl (g.E I O) O (fun W5 A => go ?_);have zp := A.E.size;refine Q_rnd_ret (P.bsy (P.bsy y2 I O) A.E Dl) fun W4 C s4 y4 => ⟨by rw [V], ((q3.mono (fun x V => by simp at V; simp [V])).trans A.E (fun x V _ => by simp at V; simp [V])).trans C (fun x V _ => by simp at V; simp [V]), (if_neg (by rw [V]; simp)).mpr <| (hD _).2 ⟨((e2.trans I).E A.E Dl).E C Dl, ⟨e, l, A.D.E C Dl⟩, y4, (C.block _ U O).trans ((A.E.block _ U Dl).trans ((I.block _ U O).trans s)), by omega⟩⟩
 refine Fn.mono (gnodesIt_ok X w5.heap.size w1.heap.size 0 f H b6 hp7 b5 ((m _).2 ⟨e7, B, q, N, r7, m7, Nat.le_refl _⟩) (fun x V => by simp at V; omega)) ?_;rintro v w8 ⟨_, i⟩;clear b6 B q N;cases ha : allNd (ndOk S) f with
 | false =>
  rw [ha, if_neg Bool.false_ne_true] at i;obtain ⟨t, ⟨e, l, p⟩, Q, g, j⟩ := (hD _).1 i;refine .inr ⟨.ret, Q, fun Z a s9 => ?_⟩;clear m hD H i P;dsimp only [behind];refine go ?_;refine Bt ((a.block _ U O).trans g) fun a5 d a4 => ?_;exact BA (A9 rfl (((p.E a Dl).E d Dl).cell (o := 0) rfl) ⟨e, rfl, (t.E a Dl).E d Dl, by simp [l]⟩)
 | true =>
 rw [ha, if_pos rfl] at i;obtain ⟨t, p, Q, g, j, s, j7⟩ := (m _).1 i;refine .inl ⟨j, fun Z a s9 => ?_⟩;clear m hD H i P;replace Q := Q.E a Dl;replace g := g.E a Dl;replace s := (a.block _ U O).trans s;have F := t.E a Dl;refine go ?_;refine AC (gkernel_ok Z _ f (hf.ext F) (hG.ext F) (hK.E F O) (Nat.le_trans hN F.size)) rfl ?_;rintro u c3 ⟨cu, rfl, k10, fu⟩;obtain ⟨cs, rfl, b0, b2⟩ := fu.cells;obtain ⟨y0, y1, y2, y3, y4, rfl⟩ := AX b0;refine go ?_;refine An (cs := [y0, y1, y2, y3, y4]) rfl rfl Dn b2 (fun c4 b7 => ?_);have r := k10.trans b7.E;have zz := r.size;have b4 := g.E r O;have a2 := (r.block _ U O).trans s;refine go ?_;by_cases l : (CQ f).2 = 0
 ·refine go ?_;refine AN (v := iV 0) rfl rfl rfl (b4) O (fun Z y => go ?_);refine Bt ((y.E.block _ U Dl).trans a2) fun a5 d a4 => ?_;exact BA (A9 rfl ((y.D.E d Dl).cell (o := 0) rfl) ⟨0, rfl, ((F.trans r).E y.E Dl).E d Dl, by simp [l]⟩)
 ·refine go ?_;refine AN (v := iV 2) rfl rfl rfl (b4) O (fun Z y => go ?_);refine Bt ((y.E.block _ U Dl).trans a2) fun a5 d a4 => ?_;exact BA (A9 rfl ((y.D.E d Dl).cell (o := 0) rfl) ⟨2, rfl, ((F.trans r).E y.E Dl).E d Dl, by simp [l]⟩)
section
attribute [local semireducible] WC AO Bi BH Be Cq DN BU
variable {P : Program} {all : Array Oper} {Z : Fr → DS → List PanicEntry → World → Prop} {K : Fr → DS → World → Prop} {rest : List Oper} {f : Fr} {ds : DS} {w : World} {d : Nat} {ty : TypeId} {pos : String} {af : Array Edge}
theorem W_lookupS {T : TypeId} {m k : Operand} {r : Nat} {x : LU} {y z : Value} {L : List (LU × Value)} [hT : SMapT P T z] (A : ev f m = .map (some r)) (n : ev f k = AI x) (D : SMap w r L) (V : L.lookup x = some y)
  (h : AO P all Z K rest (upd f d y) ds w) : AO P all Z K (⟨some d, .lookup T m k false, ty, pos, af, none⟩ :: rest) f ds w := by
 obtain ⟨s, g, i, X, W, R, p⟩ := hT.out;have G := nodup_str D;obtain ⟨c, e, S, q, o⟩ := D;refine Aq rfl ?_ h;have l := MapKept.run_checkKey (P := P) (w := w) (k := AI x) W trivial c.isEmpty 9999;rcases find_str W o G x w with ⟨a, b, _⟩ | ⟨j, v, a, b⟩
 ·rw [a] at V; cases V
 ·rw [a] at V;cases V;simp [execOp, A, n, Instr.lookup, run_underlying X, MapKept.run_getObj_map S, l, b]
theorem W_putS {T : TypeId} {m k v : Operand} {r : Nat} {x : LU} {y z : Value} {L : List (LU × Value)} [hT : SMapT P T z] (A : ev f m = .map (some r)) (p : ev f k = AI x) (q : ev f v = y) (D : SMap w r L) (V : L.lookup x = none)
  (h : ∀ w', Keep [r] w w' → w'.heap.size = w.heap.size → SMap w' r (L ++ [(x, y)]) → AO P all Z K rest f ds w') : AO P all Z K (⟨none, .mapUpdate T m k v, ty, pos, af, none⟩ :: rest) f ds w := by
 obtain ⟨u, g, i, X, W, R, t⟩ := hT.out;have G := nodup_str D;obtain ⟨n, e, S, s, c⟩ := D;have o := MapKept.run_checkKey (P := P) (w := w) (k := AI x) W trivial false 9999;rcases find_str W c G x w with ⟨a, b, l⟩ | ⟨j, B, a, b⟩
 ·refine W_skp (w' := { w with heap := w.heap.setIfInBounds r (.map (n.push { key := AI x, val := y, born := e }) (e + 1)) }) rfl ?_ (h _ (setBlkS_keep fun _ _ _ h => by cases h) O ⟨_, _, (MapKept.heap_set S).1, MapKept.stamped_push s l, ?_⟩)
  ·simp [execOp, A, p, q, Instr.mapUpdate, run_underlying X, MapKept.run_getObj_map S, o, b, MapKept.run_setObj_map _ S]
  ·rw [Array.toList_push, List.map_append, c];simp [rdS, encS]
 ·rw [a] at V; cases V
end
instance : SMapT Zp 153 (iV 0) := smapT_of Tryz.underlying153 Tryz.underlying9 Dk
theorem SlAt.req {ok : Nat → Prop} {w : World} {a : Option Addr} {n c : Nat} {l : List Rqm} {k : Nat} {x : Rqm} (h : SlAt reqR ok w (.slice a n c) l) (V : l[k]? = some x) : ∃ b o d, a = some ⟨b, o, none⟩ ∧ ok b ∧ d.length = 5 ∧ Cells w b (o + k * 8) ([AI x.part, AI x.name, iV x.kind] ++ d) ∧ FAt ok w (.agg d.toArray) x.formula := by
 obtain ⟨j, m, L, e, i, g⟩ := h;cases e;have y := (List.getElem?_eq_some_iff.1 V).1;obtain ⟨H, G⟩ : ∃ H, L[k]? = some H := ⟨_, List.getElem?_eq_getElem (by rw [g.1]; exact y)⟩;obtain ⟨d, rfl, C, I⟩ := g.2 k H x G V;obtain ⟨b, o, e, S, T⟩ := i.recs g (sz := 8) rfl G y;exact ⟨b, o, d, e, S, C, T, I⟩
def nmI (a : List Rqm) (nm : LU) : Option Nat := a.findIdx? fun r => decide (r.name = nm)
def fstM (w : World) (u : Nat) (l : List Rqm) : Prop := ∃ r L, Blk w u 153 [.map (some r)] ∧ SMap w r L ∧ ∀ o, L.lookup o = (nmI l o).map fun i => iV (i : Int)
theorem nmI_snoc (l : List Rqm) (x : Rqm) (nm : LU) : nmI (l ++ [x]) nm = match nmI l nm with | some i => some i | none => if x.name = nm then some l.length else none := by
 unfold nmI;rw [List.findIdx?_append];cases h : l.findIdx? (fun r => decide (r.name = nm)) with
 | some i => simp
 | none =>
  simp only [Option.none_or, List.findIdx?_cons, List.findIdx?_nil];by_cases V : x.name = nm <;> simp [V]
abbrev rulV (k : Nat) (L : LV) : Value := .func (.func k) #[] L.toArray
theorem made1 : (madeCells (Value.agg #[.nilFunc]).cells (3 * 1)).toList = [.nilFunc, .nilFunc, .nilFunc] := by kernel_rfl
theorem rules_ok (w : World) (S : Nat) (sv : Value) (ra : Option Addr) (t : Nat) (b : List Rqm) (n : Blk w S 54 [sv, .slice ra b.length t]) (hr : SlAt reqR AZ w (.slice ra b.length t) b) (G : b.length ≤ 1000) :
  Fn Zp 56 [pt S] w fun u w' => ∃ g l mb, u = .slice (sm g) 3 3 ∧ Ext w w' ∧ Blk w' g 112 [rulV 90 [pt l], rulV 91 [pt mb, pt l], rulV 92 [pt l]] ∧ Blk w' l 109 [pt S] ∧ fstM w' mb b := by
 refine AG Tryz.func56 rfl Tryz.ntmps56 (go ?_);refine Aj (L := [pt S]) rfl (fun Q E => go ?_);refine W_makeMapS (fun c k2 z2 X => ?_);refine AQ (fun w3 r => ?_);refine AN (v := .map (some Q.heap.size)) rfl rfl rfl r.D O (fun p s => ?_);have z1 := E.size;have z3 := r.size;have z4 := s.size;have R : Ext c p := r.E.E s.E O;have a2 : Blk p w.heap.size 109 [pt S] := E.D.E (k2.trans R) O;have a1 : Blk p c.heap.size 153 [.map (some Q.heap.size)] := s.D;have m4 := X.E R O;have M : Ext w p := (E.E.trans k2).trans R;have b4 := n.E M O;have a9 := n.lt;refine go ?_;refine Ah (α := Nat) (fun k => [(1, pt w.heap.size), (2, .slice none 0 0), (3, pt c.heap.size), (15, iV (b.length : Int)), (16, iV (k : Int))]) (fun k W => k ≤ b.length ∧ Ext w W ∧ Blk W w.heap.size 109 [pt S] ∧ Blk W c.heap.size 153 [.map (some Q.heap.size)] ∧ p.heap.size ≤ W.heap.size ∧ ∃ L, SMap W Q.heap.size L ∧ ∀ o, L.lookup o = (nmI (b.take k) o).map fun i => iV (i : Int)) (fun k => b.length - k) 0 ag ⟨by omega, M, a2, a1, Nat.le_refl _, [], m4, fun o => rfl⟩ ?_;rintro k W fr ⟨a8, T, F, A, zW, L, mW, D⟩;have bW := n.E T O;refine go ?_;by_cases a5 : k < b.length
 ·obtain ⟨x, hx⟩ := gl a5;obtain ⟨rb, ro, d, rfl, -, hd, hc, -⟩ := hr.req hx;have I := hc 1 _ rfl;have a7 := World.block_lt_of_cell? w _ I;simp only at a7;have c1 := T.cell I O;refine go ?_;refine AW (rd 0 15 .done) Al Dk (fun j N ed => ⟨Ext j, ?_, ?_⟩)
  ·exact EZ
  have zd := N.size;have H := F.E N O;have z := A.E N O;have bd := bW.E N O;have a3 := N.cell c1 O;have q := mW.E N O;refine go ?_;apply D_R;rfl;rfl
  ·intro V hV;refine W_lookup2S rfl rfl (q.E hV O) ?_;exact AH ⟨rfl, rfl, rfl⟩
  refine go ?_;have B : L.lookup x.name = _ := D x.name
  have a0 : ∀ o, nmI (b.take (k + 1)) o = match nmI (b.take k) o with | some i => some i | none => if x.name = o then some k else none := by
   intro o;rw [List.take_add_one, hx];have := nmI_snoc (b.take k) x o
   rwa [List.length_take, Nat.min_eq_left U] at this
  cases hi : nmI (b.take k) x.name with
  | some i =>
   rw [hi] at B;rw [B];refine go ?_;refine ⟨k + 1, ⟨rfl, ag, ⟨by omega, T.trans N, H, z, by omega, L, q, fun o => ?_⟩⟩, by omega⟩;rw [D, a0];by_cases G : x.name = o
   ·subst G; simp [hi]
   ·cases nmI (b.take k) o <;> simp [G]
  | none =>
   rw [hi] at B;rw [B];refine go ?_;have a4 := T.trans N;refine AW (rd 0 10 (.alt 10 .done .stop)) Al Dk (fun j N ed => ⟨Keep [Q.heap.size] j, ?_, ?_⟩)
   ·exact Ep
   have b0 := N.size;have C := H.E N O;have y := z.E N O;have X := q.E N O;have s1 : ∀ V, Keep [Q.heap.size] j V → V.cell? ⟨w.heap.size, 0, none⟩ = some (pt S) := fun V e => (C.E e Dl).cell rfl;have s2 : ∀ V, Keep [Q.heap.size] j V → V.cell? ⟨c.heap.size, 0, none⟩ = some (.map (some Q.heap.size)) := fun V e => (y.E e Dl).cell rfl;have s3 : ∀ V, Keep [Q.heap.size] j V → V.cell? ⟨S, 0 + 1, none⟩ = some (.slice (some ⟨rb, ro, none⟩) b.length t) := fun V e => ((bd.E N O).E e Dl).cell rfl;have s4 : ∀ V, Keep [Q.heap.size] j V → V.cell? ⟨rb, ro + k * 8 + 1, none⟩ = some (AI x.name) := fun V e => e.cell (N.cell a3 O) Dl;refine go ?_;refine D_E rfl ?_;refine W_putS rfl rfl rfl X B (fun w9 a z9 m9 => ?_);refine wNl a ?_;refine go ?_;refine ⟨k + 1, ⟨rfl, ag, ⟨by omega, (a4.trans N).E a Dl, C.E a Dl, y.E a Dl, by have := a.size; omega, _, m9, fun o => ?_⟩⟩, by omega⟩;rw [a0, List.lookup_append, D];by_cases G : x.name = o
   ·subst G;rw [hi];simp;rfl
   ·have a6 : (o == x.name) = false := by simpa using fun h => G h.symm
    cases nmI (b.take k) o with
    | some i => simp
    | none => simp [List.lookup_cons, G, a6]
 ·obtain rfl : k = b.length := by omega
  rw [List.take_length] at D;refine go ?_;refine AL (out := [rulV 90 [pt w.heap.size], rulV 91 [pt c.heap.size, pt w.heap.size], rulV 92 [pt w.heap.size]]) rfl U (by rw [made1]; rfl) (fun w5 m => ?_);refine go ?_;exact AA rfl ⟨W.heap.size, w.heap.size, c.heap.size, rfl, T.trans m.E, m.D, F.E m.E O, Q.heap.size, L, A.E m.E O, mW.E m.E O, D⟩
def wordsB (r : Rqm) : Bool := (decide (r.kind = 1) || decide (r.kind = 2)) && CJ r.part && CJ r.name
theorem nmI_self {Z : List Rqm} {i : Nat} {x : Rqm} (h : Z[i]? = some x) : ∃ j, nmI Z x.name = some j ∧ j ≤ i := by
 unfold nmI;cases hj : Z.findIdx? (fun r => decide (r.name = x.name)) with
 | none =>
  rw [List.findIdx?_eq_none_iff] at hj;have := hj x (List.mem_of_getElem? h);simp at this
 | some j =>
  refine ⟨j, rfl, ?_⟩;obtain ⟨y, X, W⟩ := List.findIdx?_eq_some_iff_getElem.1 hj;refine Nat.le_of_not_lt fun c => ?_;have := W i c;obtain ⟨F, rfl⟩ := List.getElem?_eq_some_iff.1 h;simp at this
theorem rule1_ok (w : World) (l S : Nat) (sv : Value) (H : Option Addr) (B : Nat) (Z : List Rqm) (i : Nat) (x : Rqm) (V : Z[i]? = some x) (v : Blk w l 109 [pt S]) (e : Blk w S 54 [sv, .slice H Z.length B]) (b : SlAt reqR AZ w (.slice H Z.length B) Z) (a : KY w) :
  Fn Zp 90 [iV (i : Int), pt l] w fun u w' => u = iV (if wordsB x = true then 0 else 1) ∧ w' = w := by
 have y := (List.getElem?_eq_some_iff.1 V).1;obtain ⟨Q, f, d, rfl, -, C, T, I⟩ := b.req V;have c := T 0 _ rfl;have G := T 1 _ rfl;have E := T 2 _ rfl;unfold wordsB;refine AG Tryz.func90 rfl Tryz.ntmps90 (go ?_);by_cases X : x.kind = 1
 ·refine go ?_;refine AC (DA x.part w a) rfl ?_;rintro _ w ⟨rfl, rfl⟩;cases hp1 : CJ x.part with
  | false =>
   refine go ?_;exact AA rfl ⟨by simp [X]; rfl, rfl⟩
  | true =>
   refine go ?_;refine AC (DA x.name w a) rfl ?_;rintro _ w ⟨rfl, rfl⟩;cases hp2 : CJ x.name with
   | false =>
    refine go ?_;exact AA rfl ⟨by simp [X]; rfl, rfl⟩
   | true =>
    refine go ?_;exact AA rfl ⟨by simp [X]; rfl, rfl⟩
 by_cases W : x.kind = 2
 ·refine go ?_;refine AC (DA x.part w a) rfl ?_;rintro _ w ⟨rfl, rfl⟩;cases hp1 : CJ x.part with
  | false =>
   refine go ?_;exact AA rfl ⟨by simp [W]; rfl, rfl⟩
  | true =>
   refine go ?_;refine AC (DA x.name w a) rfl ?_;rintro _ w ⟨rfl, rfl⟩;cases hp2 : CJ x.name with
   | false =>
    refine go ?_;exact AA rfl ⟨by simp [W]; rfl, rfl⟩
   | true =>
    refine go ?_;exact AA rfl ⟨by simp [W]; rfl, rfl⟩
 refine go ?_;exact AA rfl ⟨by simp [X, W]; rfl, rfl⟩
theorem rule2_ok (w : World) (l S c : Nat) (sv : Value) (H : Option Addr) (e : Nat) (Z : List Rqm) (i : Nat) (x : Rqm) (b : Z[i]? = some x) (v : Blk w l 109 [pt S]) (g : Blk w S 54 [sv, .slice H Z.length e]) (k : SlAt reqR AZ w (.slice H Z.length e) Z) (A : fstM w c Z) (E : Z.length ≤ 1000) :
  Fn Zp 91 [iV (i : Int), pt c, pt l] w fun u w' => u = iV (if nmI Z x.name = some i then 0 else 4) ∧ Ext w w' := by
 have h := (List.getElem?_eq_some_iff.1 b).1;obtain ⟨Q, X, d, rfl, -, C, T, q⟩ := k.req b;have G := T 1 _ rfl;obtain ⟨r, L, f, t, D⟩ := A;obtain ⟨j, y, s⟩ := nmI_self b;have B := D x.name;rw [y] at B;refine AG Tryz.func91 rfl Tryz.ntmps91 (go ?_);refine AW (rd 0 12 .done) Al Dk (fun K N I => ⟨Ext K, ?_, ?_⟩)
 ·exact EZ
 have o := v.E N O;have z := f.E N O;have n := g.E N O;have p := N.cell G O;have m := t.E N O;refine go ?_;apply D_R;rfl;rfl
 ·intro V a;refine W_lookupS rfl rfl (m.E a O) B ?_;exact AH ⟨rfl, rfl, rfl⟩
 rw [y];by_cases h : j < i
 ·refine go ?_;exact AA rfl ⟨by rw [if_neg Dl]; rfl, N⟩
 ·obtain rfl : j = i := by omega
  refine go ?_;exact AA rfl ⟨by rw [if_pos rfl]; rfl, N⟩
theorem rule3_ok (w : World) (l q : Nat) (M : Option Addr) (m : Nat) (S : List Sgn) (H : Option Addr) (B : Nat) (Z : List Rqm) (i : Nat) (x : Rqm) (p : Z[i]? = some x) (v : Blk w l 109 [pt q]) (E : Blk w q 54 [.slice M S.length m, .slice H Z.length B]) (A : SlAt sgnR AZ w (.slice M S.length m) S) (G : SlAt reqR AZ w (.slice H Z.length B) Z) (D : GF w) (z : KY w) (c : 10 ≤ w.heap.size) :
  Fn Zp 92 [iV (i : Int), pt l] w fun u w' => ∃ e : Int, u = iV e ∧ Ext w w' ∧ (e = 0 ↔ fmOk S x.formula = true) := by
 have y := (List.getElem?_eq_some_iff.1 p).1;obtain ⟨Q, X, d, rfl, -, C, T, I⟩ := G.req p;obtain ⟨g, b, k, n, o, rfl⟩ := AX C
 have t : Cells w Q (X + i * 8 + 3) [g, b, k, n, o] := fun j u r => by
  have := T (3 + j) u (by rw [List.getElem?_append_right O]; simpa using r)
  rwa [← Nat.add_assoc] at this
 refine AG Tryz.func92 rfl Tryz.ntmps92 (go ?_);refine AW (rd 0 12 (.alt 12 (.read 13 .done) .stop)) Al Dk (fun K N W => ⟨Ext K, ?_, ?_⟩)
 ·exact EZ
 have R := v.E N O;have P := E.E N O;have s : ∀ V, Ext K V → Cells V Q (X + i * 8 + 3) [g, b, k, n, o] := fun V e => (t.E N O).E e O;refine go ?_;apply D_R;rfl;rfl
 ·intro V a;refine AR (L := [g, b, k, n, o]) rfl rfl (s V a) ?_;exact AH ⟨rfl, rfl, rfl⟩
 refine D_E rfl ?_;refine AC (gtyping_ok K M m S _ x.formula (A.ext N) (I.ext N) (D.ext N) (z.E N O) (Nat.le_trans c N.size)) rfl ?_;rintro _ w5 ⟨e, rfl, f, F⟩;refine wNl f ?_;refine go ?_;exact AA rfl ⟨e, rfl, N.trans f, F⟩
def reqB (S : List Sgn) (Z : List Rqm) (i : Nat) : Bool := match Z[i]? with
 | some x => wordsB x && decide (nmI Z x.name = some i) && fmOk S x.formula
 | none => false
def chkB (s : Spc) : Bool := A6 s.sigs && decide (s.reqs.length ≤ 16) && (List.range s.reqs.length).all (reqB s.sigs s.reqs)
def FltA (w : World) (B : Nat) (v : Value) (N : Nat) (a : Prop) : Prop := ∃ n i, w.ownsRow B 106 2 v n i ∧ n ≤ N ∧ i.length = n * 2 ∧ (n = 0 ↔ a) ∧ (n ≠ 0 → ∃ e : Int, e ≠ 0 ∧ i[1]? = some (iV e))
theorem FltA.push {w' : World} {B N n : Nat} {p : Value} {xs : LV} {q : Prop} {k : Value} {e : Int} (b : n ≤ N) (W : xs.length = n * 2) (w : n ≠ 0 → ∃ e : Int, e ≠ 0 ∧ xs[1]? = some (iV e)) (f : w'.ownsRow B 106 2 p (n + 1) (xs ++ [k, iV e])) (F : e ≠ 0) (H : ¬ q) : FltA w' B p (N + 1) q := by
 refine ⟨n + 1, _, f, by omega, by simp [W]; omega, by simp [H], fun _ => ?_⟩;by_cases G : n = 0
 ·subst G;have : xs = [] := List.eq_nil_of_length_eq_zero U;subst this;exact ⟨e, F, rfl⟩
 ·obtain ⟨X, P, a⟩ := w G;exact ⟨X, P, by rw [List.getElem?_append_left U]; exact a⟩
theorem made2 : (madeCells (Value.agg #[iV 0, iV 0]).cells (1 * 2)).toList = [iV 0, iV 0] := by kernel_rfl
theorem check_ok (w : World) (sa : Option Addr) (sc : Nat) (H : Option Addr) (B : Nat) (s : Spc) (hS : SlAt sgnR AZ w (.slice sa s.sigs.length sc) s.sigs) (Q : SlAt reqR AZ w (.slice H s.reqs.length B) s.reqs) (hG : GF w) (hK : KY w) (hN : 10 ≤ w.heap.size) :
  Fn Zp 19 [.agg #[.slice sa s.sigs.length sc, .slice H s.reqs.length B]] w fun u w' => Ext w w' ∧ FltA w' w.heap.size u 16 (chkB s = true) := by
 obtain ⟨S, Z⟩ := s;simp only at hS Q;obtain ⟨_, _, _, hrl⟩ := Q.len;refine AG Tryz.func19 rfl Tryz.ntmps19 (go ?_);refine Aj (L := [.slice sa S.length sc, .slice H Z.length B]) rfl (fun w1 n1 => ?_);have z1 := n1.size;have b1 := n1.D;refine go ?_;refine AC (Dj w1 _ S (hS.ext n1.E) (hK.E n1.E O)) rfl ?_;rintro _ w3 ⟨rfl, k3⟩;have z3 := k3.size;have e3 := n1.E.trans k3;have b3 := b1.E k3 O;cases hv : A6 S with
 | false =>
  refine go ?_;have hq : (1 : Nat) = 0 ↔ chkB ⟨S, Z⟩ = true := by simp [chkB, hv]
  refine AL (out := [iV (-1), iV 1]) rfl U (by rw [made2]; rfl) (fun w5 n5 => ?_);refine go ?_;exact AA rfl ⟨e3.trans n5.E, 1, _, n5.own (n := 1) (size := 2) rfl Dq U, by omega, rfl, hq, fun _ => ⟨1, by omega, rfl⟩⟩
 | true =>
 refine go ?_;by_cases b2 : 16 < Z.length
 ·refine go ?_;have hq : (1 : Nat) = 0 ↔ chkB ⟨S, Z⟩ = true := by simp [chkB, hv]; omega
  refine AL (out := [iV (-1), iV 2]) rfl U (by rw [made2]; rfl) (fun w5 n5 => ?_);refine go ?_;exact AA rfl ⟨e3.trans n5.E, 1, _, n5.own (n := 1) (size := 2) rfl Dq U, by omega, rfl, hq, fun _ => ⟨2, by omega, rfl⟩⟩
 refine go ?_;refine AC (rules_ok w3 w.heap.size _ H B Z b3 (Q.ext e3) U) rfl ?_;rintro _ w4 ⟨g, l, F, rfl, R, bg, bp, bm⟩;have z4 := R.size;have e4 := e3.trans R;have b4 := b3.E R O;refine go ?_
 refine Ah (α := Nat × Value) (fun y => [(1, pt w.heap.size), (3, y.2), (4, .slice (sm g) 3 3), (24, iV (Z.length : Int)), (25, iV (y.1 : Int))])
  (fun y W => y.1 ≤ Z.length ∧ Ext w W ∧ Ext w4 W ∧ FltA W w4.heap.size y.2 y.1 (∀ i < y.1, reqB S Z i = true)) (fun y => Z.length - y.1) (0, .slice none 0 0) ag ⟨by simp, e4, Ext.refl _, 0, [], ⟨rfl, .inl ⟨rfl, rfl⟩⟩, Nat.le_refl _, rfl, by simp, by simp⟩ ?_
 rintro ⟨k, v⟩ W fr ⟨a9, T, z, P⟩;simp only at a9 T z P;have bW := b4.E z O;have a4 := bg.E z O;have a5 := bp.E z O
 have a7 : ∀ V, Ext W V → fstM V F Z := fun V d => by
  obtain ⟨r, L, h1, h2, h3⟩ := bm;exact ⟨r, L, h1.E (z.trans d) O, h2.E (z.trans d) O, h3⟩
 refine go ?_;by_cases b0 : k < Z.length
 ·obtain ⟨x, hx⟩ := gl b0;have a3 : reqB S Z k = (wordsB x && decide (nmI Z x.name = some k) && fmOk S x.formula) := by unfold reqB; rw [hx]
  refine go ?_
  refine Ah (α := Nat) (fun j => [(1, pt w.heap.size), (3, v), (4, .slice (sm g) 3 3), (5, iV (k : Int)), (24, iV (Z.length : Int)), (25, iV (k : Int)), (28, .slice (sm g) 3 3), (29, iV 3), (30, iV (j : Int))])
   (fun j V => j ≤ 3 ∧ Ext W V ∧ (1 ≤ j → wordsB x = true) ∧ (2 ≤ j → nmI Z x.name = some k) ∧ (3 ≤ j → fmOk S x.formula = true)) (fun j => 3 - j) 0 ag ⟨by simp, Ext.refl _, by omega, by omega, by omega⟩ ?_
  rintro j V fr ⟨hj, G, h1, h2, h3⟩;refine go ?_;by_cases hj3 : j < 3
  ·rcases (show j = 0 ∨ j = 1 ∨ j = 2 by omega) with rfl | rfl | rfl
   ·have a1 : Cells V g 0 [rulV 90 [pt l]] := fun i u D => by
     obtain ⟨rfl, rfl⟩ : i = 0 ∧ u = rulV 90 [pt l] := by
      cases i with
      | zero => exact ⟨rfl, by simpa using D.symm⟩
      | succ i => simp at D
     exact (a4.E G O).cell rfl
    refine go ?_;refine AR (L := [rulV 90 [pt l]]) rfl rfl a1 ?_;refine AQ (L := [.nilFunc]) (fun V1 E => ?_);refine AE (cs := [rulV 90 [pt l]]) rfl rfl rfl (AU rfl) E.D O (fun m a => ?_);have a2 : Ext V m := E.E.E a.E O;have bq : Blk m V.heap.size 112 [rulV 90 [pt l]] := a.D;have d := G.trans a2;have M := T.trans d;have a0 := a5.E d O;have bV := bW.E d O;refine go ?_;refine Av (v1 := []) (v2 := [pt l]) (vs := [iV (k : Int)]) rfl (rule1_ok m l w.heap.size _ H B Z k x hx a0 bV (Q.ext M) (hK.E M O)) rfl ?_;rintro _ _ ⟨rfl, rfl⟩;by_cases q : wordsB x = true;rotate_left
    ·rw [if_neg q];have b : reqB S Z k = false := by rw [a3]; simp [q]
     obtain ⟨n, X, f, N, a, c, C⟩ := P;refine go ?_;refine AL (out := [iV (k : Int), iV 1]) rfl U (by rw [made2]; rfl) (fun V3 t => ?_);have p := (z.trans d).trans t.E;have a6 := p.size;refine Ak (ok := AZ) (v := v) rfl rfl (Aa f (Ext.trans d t.E)) (AV (t.own (n := 1) (size := 2) rfl Dq (Nat.le_refl _)) fun _ _ => trivial) U rfl rfl (AU rfl) U U U (fun v8 w8 o => ?_);have A : ∀ y ∈ v.ownBlock.toList, w4.heap.size ≤ y := fun y K => (Ab f (Option.mem_toList.1 K)).1;refine go ?_;refine ⟨(k + 1, v8), ⟨rfl, ag, ⟨by simp only; omega, (e4.trans p).E o.E (fun y K => by have := A y K; omega), p.E o.E (fun y K => by have := A y K; omega), ?_⟩⟩, by simp only; omega⟩;refine FltA.push N a C o.own U (fun h => ?_);have := h k U;rw [b] at this;cases this
    ·rw [if_pos q];refine go ?_;exact ⟨1, ⟨rfl, ag, ⟨by omega, d, fun _ => q, by omega, by omega⟩⟩, by omega⟩
   ·have a1 : Cells V g 1 [rulV 91 [pt F, pt l]] := fun i u D => by
     obtain ⟨rfl, rfl⟩ : i = 0 ∧ u = rulV 91 [pt F, pt l] := by
      cases i with
      | zero => exact ⟨rfl, by simpa using D.symm⟩
      | succ i => simp at D
     exact (a4.E G O).cell rfl
    refine go ?_;refine AR (L := [rulV 91 [pt F, pt l]]) rfl rfl a1 ?_;refine AQ (L := [.nilFunc]) (fun V1 E => ?_);refine AE (cs := [rulV 91 [pt F, pt l]]) rfl rfl rfl (AU rfl) E.D O (fun m a => ?_);have a2 : Ext V m := E.E.E a.E O;have bq : Blk m V.heap.size 112 [rulV 91 [pt F, pt l]] := a.D;have d := G.trans a2;have M := T.trans d;have a0 := a5.E d O;have bV := bW.E d O;refine go ?_;refine Av (v1 := []) (v2 := [pt F, pt l]) (vs := [iV (k : Int)]) rfl (rule2_ok m l w.heap.size F _ H B Z k x hx a0 bV (Q.ext M) (a7 m d) U) rfl ?_;rintro _ V4 ⟨rfl, R⟩;have I := d.trans R;by_cases q : nmI Z x.name = some k
    ·rw [if_pos q];refine go ?_;exact ⟨2, ⟨rfl, ag, ⟨by omega, I, fun _ => h1 U, fun _ => q, by omega⟩⟩, by omega⟩
    ·rw [if_neg q];have b : reqB S Z k = false := by rw [a3]; simp [q]
     obtain ⟨n, X, f, N, a, c, C⟩ := P;refine go ?_;refine AL (out := [iV (k : Int), iV 4]) rfl U (by rw [made2]; rfl) (fun V3 t => ?_);have p := (z.trans I).trans t.E;have a6 := p.size;refine Ak (ok := AZ) (v := v) rfl rfl (Aa f (Ext.trans I t.E)) (AV (t.own (n := 1) (size := 2) rfl Dq (Nat.le_refl _)) fun _ _ => trivial) U rfl rfl (AU rfl) U U U (fun v8 w8 o => ?_);have A : ∀ y ∈ v.ownBlock.toList, w4.heap.size ≤ y := fun y K => (Ab f (Option.mem_toList.1 K)).1;refine go ?_;refine ⟨(k + 1, v8), ⟨rfl, ag, ⟨by simp only; omega, (e4.trans p).E o.E (fun y K => by have := A y K; omega), p.E o.E (fun y K => by have := A y K; omega), ?_⟩⟩, by simp only; omega⟩;refine FltA.push N a C o.own U (fun h => ?_);have := h k U;rw [b] at this;cases this
   ·have a1 : Cells V g 2 [rulV 92 [pt l]] := fun i u D => by
     obtain ⟨rfl, rfl⟩ : i = 0 ∧ u = rulV 92 [pt l] := by
      cases i with
      | zero => exact ⟨rfl, by simpa using D.symm⟩
      | succ i => simp at D
     exact (a4.E G O).cell rfl
    refine go ?_;refine AR (L := [rulV 92 [pt l]]) rfl rfl a1 ?_;refine AQ (L := [.nilFunc]) (fun V1 E => ?_);refine AE (cs := [rulV 92 [pt l]]) rfl rfl rfl (AU rfl) E.D O (fun m a => ?_);have a2 : Ext V m := E.E.E a.E O;have bq : Blk m V.heap.size 112 [rulV 92 [pt l]] := a.D;have d := G.trans a2;have M := T.trans d;have a0 := a5.E d O;have bV := bW.E d O;refine go ?_;refine Av (v1 := []) (v2 := [pt l]) (vs := [iV (k : Int)]) rfl (rule3_ok m l w.heap.size sa sc S H B Z k x hx a0 bV (hS.ext M) (Q.ext M) (hG.ext M) (hK.E M O) (Nat.le_trans hN M.size)) rfl ?_;rintro _ V4 ⟨e, rfl, R, he⟩;have I := d.trans R;by_cases h0 : e = 0
    ·have hx3 := he.1 h0;subst h0;refine go ?_;exact ⟨3, ⟨rfl, ag, ⟨by omega, I, fun _ => h1 U, fun _ => h2 U, fun _ => hx3⟩⟩, by omega⟩
    ·have q : fmOk S x.formula = false := by rw [← Bool.not_eq_true, ← he]; exact h0
     have b : reqB S Z k = false := by rw [a3]; simp [q]
     obtain ⟨n, X, f, N, a, c, C⟩ := P;refine go ?_;refine AL (out := [iV (k : Int), iV e]) rfl U (by rw [made2]; rfl) (fun V3 t => ?_);have p := (z.trans I).trans t.E;have a6 := p.size;refine Ak (ok := AZ) (v := v) rfl rfl (Aa f (Ext.trans I t.E)) (AV (t.own (n := 1) (size := 2) rfl Dq (Nat.le_refl _)) fun _ _ => trivial) U rfl rfl (AU rfl) U U U (fun v8 w8 o => ?_);have A : ∀ y ∈ v.ownBlock.toList, w4.heap.size ≤ y := fun y K => (Ab f (Option.mem_toList.1 K)).1;refine go ?_;refine ⟨(k + 1, v8), ⟨rfl, ag, ⟨by simp only; omega, (e4.trans p).E o.E (fun y K => by have := A y K; omega), p.E o.E (fun y K => by have := A y K; omega), ?_⟩⟩, by simp only; omega⟩;refine FltA.push N a C o.own U (fun h => ?_);have := h k U;rw [b] at this;cases this
  ·obtain rfl : j = 3 := by omega
   have b : reqB S Z k = true := by rw [a3, h1 U, h3 U, h2 U]; simp
   refine go ?_;obtain ⟨n, X, f, N, a, c, C⟩ := P;refine ⟨(k + 1, v), ⟨rfl, ag, ⟨by simp only; omega, T.trans G, z.trans G, n, X, Aa f G, by simp only; omega, a, ?_, C⟩⟩, by simp only; omega⟩;rw [c];refine ⟨fun h i hi => ?_, fun h i hi => h i (by simp only; omega)⟩;simp only at hi;by_cases a8 : i = k
   ·rw [a8]; exact b
   ·exact h i U
 ·obtain rfl : k = Z.length := by omega
  refine go ?_;obtain ⟨n, X, f, N, a, c, C⟩ := P;refine AA rfl ⟨T, n, X, Bf f e4.size, by omega, a, ?_, C⟩;rw [c];simp [chkB, hv];omega
structure Two (B : Nat) (W : World) (v1 v2 : Value) (l1 l2 : LF) : Prop where
 o1 : ∃ L, W.ownsRow B 36 5 v1 l1.length L.flatten ∧ FsAt (fun b => B ≤ b ∧ v1.ownBlock ≠ some b ∧ v2.ownBlock ≠ some b) W L l1
 o2 : ∃ L, W.ownsRow B 36 5 v2 l2.length L.flatten ∧ FsAt (fun b => B ≤ b ∧ v1.ownBlock ≠ some b ∧ v2.ownBlock ≠ some b) W L l2
 ne : ∀ g, v1.ownBlock = some g → v2.ownBlock ≠ some g
theorem Two.start (B : Nat) (W : World) : Two B W (.slice none 0 0) (.slice none 0 0) [] [] :=
 ⟨⟨[], ⟨rfl, .inl ⟨rfl, rfl⟩⟩, FsAt.nil _ _⟩, ⟨[], ⟨rfl, .inl ⟨rfl, rfl⟩⟩, FsAt.nil _ _⟩, fun g h => by simp [Value.ownBlock] at h⟩
theorem Two.swap {B : Nat} {W : World} {v1 v2 : Value} {a c : LF} (h : Two B W v1 v2 a c) : Two B W v2 v1 c a := by
 obtain ⟨⟨d, Q, M⟩, ⟨v, C, T⟩, K⟩ := h;exact ⟨⟨v, C, T.mono fun b S => ⟨S.1, S.2.2, S.2.1⟩⟩, ⟨d, Q, M.mono fun b S => ⟨S.1, S.2.2, S.2.1⟩⟩, fun g X e => K g e X⟩
theorem Two.sl {B : Nat} {W : World} {v1 v2 : Value} {g f : LF} (h : Two B W v1 v2 g f) : ∃ a c, v1 = .slice a g.length c ∧ SlAt fmlR AZ W v1 g := by
 exact Ej
theorem Two.push {B : Nat} {W x s : World} {v1 v2 i : Value} {m t : LF} {n : List (LV)} {cs : LV} {f : Fml} (h : Two B W v1 v2 m t) (Q : W.ownsRow B 36 5 v1 m.length n.flatten) (u : FsAt (fun b => B ≤ b ∧ v1.ownBlock ≠ some b ∧ v2.ownBlock ≠ some b) W n m)
  (M : Ext W x) (I : FAt (fun b => W.heap.size ≤ b) x (.agg cs.toArray) f) (w : cs.length = 5) (q : B ≤ W.heap.size) (k : Apd x s B 36 5 v1 i (m.length + 1) (n.flatten ++ cs)) : Two B s i v2 (m ++ [f]) t := by
 obtain ⟨-, ⟨v, C, T⟩, K⟩ := h;have z := M.size;have c : ∀ g, v1.ownBlock = some g → g < W.heap.size := fun g d => (Ab Q d).2;have j : ∀ g, v2.ownBlock = some g → g < W.heap.size := fun g d => (Ab C d).2
 have o : ∀ g, i.ownBlock = some g → v1.ownBlock = some g ∨ g = x.heap.size := fun g d => by
  rcases k.D with e | e
  ·exact .inl (by rw [← e]; exact d)
  ·rw [e] at d; exact .inr (Option.some.inj d).symm
 have p : ∀ y, y ∈ v1.ownBlock.toList → v1.ownBlock = some y := fun y D => Option.mem_toList.1 D
 have Z : ∀ {L : List (LV)} {l : LF}, FsAt (fun b => B ≤ b ∧ v1.ownBlock ≠ some b ∧ v2.ownBlock ≠ some b) W L l → FsAt (fun b => B ≤ b ∧ i.ownBlock ≠ some b ∧ v2.ownBlock ≠ some b) s L l := fun I => by
  refine ((I.lt.ext M).E k.E fun b S A => S.1.2.1 (p b A)).mono fun b S => ⟨S.1.1, fun e => ?_, S.1.2.2⟩;rcases o b e with e | e
  ·exact S.1.2.1 e
  ·have := S.2; omega
 have a : FAt (fun b => B ≤ b ∧ i.ownBlock ≠ some b ∧ v2.ownBlock ≠ some b) s (.agg cs.toArray) f := by
  refine (I.lt.E k.E fun b S A => by have := c b (p b A); have := S.1; omega).mono fun b S => ⟨by have := S.1; omega, fun e => ?_, fun e => by have := j b e; have := S.1; omega⟩;rcases o b e with e | e
  ·have := c b e; have := S.1; omega
  ·have := S.2; omega
 refine ⟨⟨n ++ [cs], ?_, (Z u).snoc a w⟩, ⟨v, Ad (Aa C M) k.E fun g d A => K g (p g A) d, Z T⟩, fun g d r => ?_⟩
 ·have := k.own;simpa using this
 ·rcases o g d with e | e
  ·exact K g e r
  ·have := j g r; omega
def asmB (r : Rqm) : Bool := decide (r.kind = 1)
def partsF (Z : List Rqm) : LF := (Z.filter asmB).map fun r => notR (CQ r.formula).1
def guarsF (Z : List Rqm) : LF := (Z.filter fun r => !asmB r).map fun r => (CQ r.formula).1
def C6 (s : Spc) : Fml := if chkB s = true then (if (Ck 5 (guarsF s.reqs)).op = 0 then Ae else Ck 6 (partsF s.reqs ++ [Ck 5 (guarsF s.reqs)])) else Ae
theorem filt_snoc {l : List Rqm} {k : Nat} {x : Rqm} (p : Rqm → Bool) (h : l[k]? = some x) : (l.take (k + 1)).filter p = (l.take k).filter p ++ if p x = true then [x] else [] := by
 rw [List.take_add_one, h, List.filter_append];by_cases v : p x = true <;> simp [v]
theorem parts_snoc {l : List Rqm} {k : Nat} {x : Rqm} (h : l[k]? = some x) : partsF (l.take (k + 1)) = partsF (l.take k) ++ (if x.kind = 1 then [notR (CQ x.formula).1] else []) ∧ guarsF (l.take (k + 1)) = guarsF (l.take k) ++ if x.kind = 1 then [] else [(CQ x.formula).1] := by
 unfold partsF guarsF;rw [filt_snoc _ h, filt_snoc _ h, List.map_append, List.map_append];by_cases X : x.kind = 1 <;> simp [asmB, X]
theorem parts_len (l : List Rqm) (k : Nat) : (partsF (l.take k)).length ≤ k ∧ (guarsF (l.take k)).length ≤ k := by
 have X := List.length_filter_le asmB (l.take k);have W := List.length_filter_le (fun r => !asmB r) (l.take k);rw [List.length_take] at X W;exact ⟨by unfold partsF; rw [List.length_map]; omega, by unfold guarsF; rw [List.length_map]; omega⟩
theorem FAt.op0 {ok : Nat → Prop} {w : World} {F H K I v : Value} {f : Fml} (h : FAt ok w (.agg [F, H, K, I, v].toArray) f) : F = iV f.op := by
 obtain ⟨D, e, u, b, a, k, G⟩ := h.form;simp only [Value.agg.injEq, List.toArray_eq_iff, List.cons.injEq, and_true] at e;exact e.1
theorem loose_op {f : Fml} (h : BD f = true) : f.op ≠ 0 := by
 obtain ⟨_, _, R⟩ := BG h;obtain ⟨N, o, v, b, j⟩ := f;obtain ⟨X, _, _, _⟩ := Bz R;have P := Bj X;simp only [Fml.op];omega
theorem con_cases (N : Int) (l : LF) : Ck N l = Ae ∨ (BD (Ck N l) = true ∧ Ck N l = Di N (l.map Ao) ∧ ∀ x ∈ l, BD x = true) := by
 unfold Ck;by_cases X : l.all BD = true
 ·rw [if_pos X];by_cases W : BD (Di N (l.map Ao)) = true
  ·rw [if_pos W]; exact .inr ⟨W, rfl, by simpa using X⟩
  ·rw [if_neg W]; exact .inl rfl
 ·rw [if_neg X]; exact .inl rfl
theorem con_zero {N : Int} {l : LF} (h : (Ck N l).op = 0) : Ck N l = Ae := by
 rcases con_cases N l with X | ⟨X, _⟩
 ·exact X
 ·exact absurd h (loose_op X)
theorem goal_ok (w : World) (sa : Option Addr) (sc : Nat) (ra : Option Addr) (rc : Nat) (s : Spc) (hS : SlAt sgnR AZ w (.slice sa s.sigs.length sc) s.sigs) (hr : SlAt reqR AZ w (.slice ra s.reqs.length rc) s.reqs) (D : GF w) (hK : KY w) (hN : 10 ≤ w.heap.size) :
  Fn Zp 20 [.agg #[.slice sa s.sigs.length sc, .slice ra s.reqs.length rc]] w fun u w' => ∃ (c : Value) (e : Int), u = .tuple #[c, iV e] ∧ Ext w w' ∧ FAt (fun b => w.heap.size ≤ b) w' c (C6 s) ∧ (e = 0 ↔ (C6 s).op ≠ 0) := by
 refine AG Tryz.func20 rfl Tryz.ntmps20 (go ?_);refine Aj (L := [.slice sa s.sigs.length sc, .slice ra s.reqs.length rc]) rfl (fun w1 n1 => ?_);refine AQ (L := zero5) (fun w2 n2 => ?_);have z1 := n1.size;have z2 := n2.size;have F := n1.E.trans n2.E;have b1 := n1.D.E n2.E O;have b2 := n2.D;refine go ?_;refine AC (check_ok w2 sa sc ra rc s (hS.ext F) (hr.ext F) (D.ext F) (hK.E F O) (Nat.le_trans hN F.size)) rfl ?_;rintro v m ⟨k3, n, xs, ho, hn16, f3, hz, d4⟩;have z3 := k3.size;have e3 := F.trans k3;have b8 := b1.E k3 O;have a4 := b2.E k3 O;have hs : Sl AZ m v n xs := AV ho fun _ _ => trivial;obtain ⟨va, vc, rfl, f0, hs2, f2, d7⟩ := hs;refine go ?_;unfold C6;by_cases Z : n = 0;rotate_left
 ·have hc : ¬ chkB s = true := fun h => Z (hz.2 h);rw [if_neg hc];obtain ⟨e, he, d8⟩ := d4 Z;obtain ⟨b, o, rfl, -, hcell⟩ := d7.resolve_left Z;have hce := hcell 1 _ d8;have c7 := World.block_lt_of_cell? m _ hce;simp only at c7;have e7 : w2.heap.size ≤ b := (Ab ho rfl).1;refine go ?_;refine AW (rd 0 5 (.alt 5 (.read 6 .done) .stop)) Al Dk (fun wd kd ed => ⟨Keep [w1.heap.size] wd, ?_, ?_⟩)
  ·exact Ep
  have q1 : ∀ V, Keep [w1.heap.size] wd V → V.cell? ⟨b, o + 0 * 2 + 1, none⟩ = some (iV e) := fun V k => k.cell (kd.cell (by simpa using hce) O) Dl;have b2d := a4.E kd O;refine go ?_;refine D_E rfl ?_;refine AE (cs := zero5) rfl rfl rfl (AU rfl) b2d Dp (fun E p9 => ?_);refine wNl p9.E ?_;refine go ?_;exact Bm rfl rfl rfl p9.D.cells ⟨_, e, rfl, (e3.trans kd).E p9.E Dl, FAt.leaf _ _ 0 [] 0 0, by simp [Ae, Fml.op, he]⟩
 ·have hc := hz.1 Z;have e8 : s.reqs.length ≤ 16 := by simp [chkB] at hc; omega
  rw [if_pos hc];subst Z;refine go ?_
  refine Ah (α := Nat × Value × Value) (fun y => [(1, pt w.heap.size), (2, pt w1.heap.size), (5, y.2.1), (6, y.2.2), (24, iV (s.reqs.length : Int)), (25, iV (y.1 : Int))])
   (fun y W => y.1 ≤ s.reqs.length ∧ Ext w W ∧ Ext m W ∧ Two m.heap.size W y.2.1 y.2.2 (partsF (s.reqs.take y.1)) (guarsF (s.reqs.take y.1))) (fun y => s.reqs.length - y.1) (0, .slice none 0 0, .slice none 0 0) ag ⟨by simp, e3, Ext.refl _, Two.start _ _⟩ ?_
  rintro ⟨k, R, v2⟩ W fr ⟨d2, T, z, C⟩;simp only at d2 T z C;have bW := b8.E z O;have zW := z.size;refine go ?_;by_cases d3 : k < s.reqs.length
  ·obtain ⟨x, hx⟩ := gl d3;obtain ⟨rb, ro, d, rfl, -, hd, b3, hf⟩ := hr.req hx;obtain ⟨x0, x1, x2, x3, x4, rfl⟩ := AX hd
   have c8 : Cells W rb (ro + k * 8 + 3) [x0, x1, x2, x3, x4] := fun j u hu => by
    have := (b3.E T O) (3 + j) u (by rw [List.getElem?_append_right O]; simpa using hu)
    rwa [← Nat.add_assoc] at this
   have d0 := (b3.E T O) 2 _ rfl;refine go ?_;refine AR (L := [x0, x1, x2, x3, x4]) rfl rfl c8 ?_;refine AC (gkernel_ok W _ x.formula (hf.ext T) (D.ext T) (hK.E T O) (Nat.le_trans hN T.size)) rfl ?_;rintro u w5 ⟨cu, rfl, k5, fu⟩;obtain ⟨t, rfl, N, b7⟩ := fu.cells;obtain ⟨y0, H, p, I, r, rfl⟩ := AX N;refine go ?_;refine An (cs := [y0, H, p, I, r]) rfl rfl Dn b7 (fun w6 B => ?_);have a := k5.trans B.E;have M := T.trans a;have b6 : Blk w6 w5.heap.size 36 [y0, H, p, I, r] := B.D;have e4 := bW.E a O;have X := fu.ext B.E;have e5 := a.cell d0 O;refine go ?_;obtain ⟨hq1, a3⟩ := parts_snoc hx;obtain ⟨b4, b5⟩ := parts_len s.reqs k;by_cases h1 : x.kind = 1
   ·rw [if_pos h1] at hq1 a3;refine go ?_;refine AC (not_ok w6 _ (CQ x.formula).1 (X.mono fun _ _ => trivial) (D.ext M) (hK.E M O) (Nat.le_trans hN M.size)) rfl ?_;rintro u7 w7 ⟨k7, f7⟩;obtain ⟨e6, rfl, d1, d5⟩ := f7.cells;obtain ⟨c0, c1, c2, c3, c4, rfl⟩ := AX d1;obtain ⟨L1, g, f1⟩ := id C.o1;have a0 := a.trans k7;refine AL (out := [c0, c1, c2, c3, c4]) rfl U Dr (fun w8 Q => ?_);have q := a0.trans Q.E;have z8 := q.size;refine Ak (ok := AZ) (v := R) rfl rfl (Aa g q) (AV (Q.own (n := 1) (size := 5) rfl Dq (Nat.le_refl _)) fun _ _ => trivial) U rfl rfl d5 U U U (fun v8 E S => ?_);have i : ∀ y ∈ (R).ownBlock.toList, m.heap.size ≤ y := fun y K => (Ab g (Option.mem_toList.1 K)).1;refine go ?_;refine ⟨(k + 1, v8, v2), ⟨rfl, ag, ⟨by simp only; omega, (T.trans q).E S.E (fun y K => by have := i y K; omega), (z.trans q).E S.E (fun y K => by have := i y K; omega), ?_⟩⟩, by simp only; omega⟩;simp only;rw [hq1, a3, List.append_nil];exact C.push g f1 q ((f7.ext Q.E).mono fun b l => by have := a.size; omega) rfl zW S
   ·rw [if_neg h1] at hq1 a3;refine go ?_;obtain ⟨L1, g, f1⟩ := id C.o2;have a0 := a;refine AL (out := [y0, H, p, I, r]) rfl U Dr (fun w8 Q => ?_);have q := a0.trans Q.E;have z8 := q.size;refine Ak (ok := AZ) (v := v2) rfl rfl (Aa g q) (AV (Q.own (n := 1) (size := 5) rfl Dq (Nat.le_refl _)) fun _ _ => trivial) U rfl rfl b7 U U U (fun v8 E S => ?_);have i : ∀ y ∈ (v2).ownBlock.toList, m.heap.size ≤ y := fun y K => (Ab g (Option.mem_toList.1 K)).1;refine go ?_;refine ⟨(k + 1, R, v8), ⟨rfl, ag, ⟨by simp only; omega, (T.trans q).E S.E (fun y K => by have := i y K; omega), (z.trans q).E S.E (fun y K => by have := i y K; omega), ?_⟩⟩, by simp only; omega⟩;simp only;rw [hq1, a3, List.append_nil];exact (C.swap.push g (f1.mono fun b l => ⟨l.1, l.2.2, l.2.1⟩) q ((X.ext Q.E).mono fun b l => l) rfl zW S).swap
  ·obtain rfl : k = s.reqs.length := by omega
   rw [List.take_length] at C;refine go ?_;obtain ⟨a2, c2, e2', hS2⟩ := C.swap.sl;subst e2';have b5 := (parts_len s.reqs s.reqs.length).2;have b4 := (parts_len s.reqs s.reqs.length).1;rw [List.take_length] at b4 b5;refine AC (andor_ok W 5 a2 c2 (guarsF s.reqs) hS2 U (D.ext T) (hK.E T O) (Nat.le_trans hN T.size)).1 rfl ?_;rintro u4 w4 ⟨k4, f4⟩;obtain ⟨t, rfl, N, hone⟩ := f4.cells;obtain ⟨y0, H, p, I, r, rfl⟩ := AX N;obtain rfl := f4.op0;refine An (cs := [iV (Ck 5 (guarsF s.reqs)).op, H, p, I, r]) rfl rfl Dn hone (fun w6 B => ?_);have a := k4.trans B.E;have M := T.trans a;have b6 : Blk w6 w4.heap.size 36 [iV (Ck 5 (guarsF s.reqs)).op, H, p, I, r] := B.D;have X := f4.ext B.E;obtain ⟨A, hA⟩ : ∃ A, A = Ck 5 (guarsF s.reqs) := ⟨_, rfl⟩;rw [← hA] at X b6 ⊢;have b9 := a4.E (z.trans a) O;have z6 := a.size;refine go ?_;by_cases h0 : A.op = 0
   ·rw [if_pos h0];refine go ?_;refine AE (cs := zero5) rfl rfl rfl (AU rfl) b9 Dp (fun E p9 => go ?_);exact Bm rfl rfl rfl p9.D.cells ⟨_, 2, rfl, M.E p9.E Dl, FAt.leaf _ _ 0 [] 0 0, by simp [Ae, Fml.op]⟩
   ·rw [if_neg h0];refine go ?_;obtain ⟨L1, g, f1⟩ := id C.o1;have a0 := a;refine AL (out := [iV A.op, H, p, I, r]) rfl U Dr (fun w8 Q => ?_);have q := a0.trans Q.E;have z8 := q.size;have d6 : oneC [iV A.op, H, p, I, r] := by rw [hA]; exact hone
    refine Ak (ok := AZ) (v := R) rfl rfl (Aa g q) (AV (Q.own (n := 1) (size := 5) rfl Dq (Nat.le_refl _)) fun _ _ => trivial) U rfl rfl d6 U U U (fun v8 E S => ?_);have i : ∀ y ∈ R.ownBlock.toList, m.heap.size ≤ y := fun y K => (Ab g (Option.mem_toList.1 K)).1;have c6 := C.push g f1 q ((X.ext Q.E).mono fun b l => l.1) rfl zW S;have e9 : Ext w E := (T.trans q).E S.E (fun y K => by have := i y K; omega);have b0 : Ext m E := (z.trans q).E S.E (fun y K => by have := i y K; omega);obtain ⟨a9, c9, e9', c5⟩ := c6.sl;subst e9';refine AC (andor_ok E 6 a9 c9 (partsF s.reqs ++ [A]) c5 Dl (D.ext e9) (hK.E e9 O) (Nat.le_trans hN e9.size)).2 rfl ?_;rintro u10 e0 ⟨d9, f⟩;obtain ⟨t, rfl, N, a5⟩ := f.cells;obtain ⟨t0, t1, t2, t3, t4, rfl⟩ := AX N;obtain rfl := f.op0;obtain ⟨G, hGo⟩ : ∃ G, G = Ck 6 (partsF s.reqs ++ [A]) := ⟨_, rfl⟩;rw [← hGo] at f a5 N ⊢;refine An (cs := [iV G.op, t1, t2, t3, t4]) rfl rfl Dn a5 (fun e1 a7 => ?_);have a6 := d9.trans a7.E;have e11 := e9.trans a6;have f5 := a6.size;have b11 : Blk e1 e0.heap.size 36 [iV G.op, t1, t2, t3, t4] := a7.D;have a8 := a4.E (b0.trans a6) O;have f11 := f.ext a7.E;refine go ?_;have z9 := b0.size;by_cases a1 : G.op = 0
    ·refine go ?_;refine AE (cs := zero5) rfl rfl rfl (AU rfl) a8 Dp (fun e2 P => go ?_);refine Bm rfl rfl rfl P.D.cells ⟨_, 2, rfl, e11.E P.E Dl, ?_, by simp [a1]⟩;rw [show G = Ae by rw [hGo] at a1 ⊢; exact con_zero a1];exact FAt.leaf _ _ 0 [] 0 0
    ·refine go ?_;refine AE (cs := [iV G.op, t1, t2, t3, t4]) rfl rfl rfl a5 a8 Dp (fun e2 P => go ?_);exact Bm rfl rfl rfl P.D.cells ⟨_, 0, rfl, e11.E P.E Dl, (f11.E P.E (fun y K hm => by have := K.1; simp at hm; omega)).mono fun y K => by have := K.1; omega, by simp [a1]⟩
abbrev InS (w : World) (v : Value) (xs : List Int) : Prop := Sl AZ w v xs.length (xs.map (iV))
theorem InS.at {w : World} {a : Option Addr} {n c k : Nat} {xs : List Int} {x : Int} (h : InS w (.slice a n c) xs) (P : xs[k]? = some x) : ∃ b o, a = some ⟨b, o, none⟩ ∧ w.cell? ⟨b, o + k, none⟩ = some (iV x) := by
 obtain ⟨f, g, e, X, W, R, d⟩ := h;cases e;have y := (List.getElem?_eq_some_iff.1 P).1;obtain ⟨b, o, rfl, _, T⟩ := d.resolve_left U;exact ⟨b, o, rfl, T k _ (by rw [List.getElem?_map, P]; rfl)⟩
theorem InS.len {w : World} {a : Option Addr} {n c : Nat} {xs : List Int} (h : InS w (.slice a n c) xs) : n = xs.length ∧ n ≤ 9223372036854775807 := by
 obtain ⟨b, x, e, X, W, R, d⟩ := h;cases e;exact ⟨rfl, by omega⟩
def LasG (w : World) (c : LV) (E h : List Int) : Prop := ∃ M L R b, c = [.slice M E.length L, .slice R h.length b] ∧ InS w (.slice M E.length L) E ∧ InS w (.slice R h.length b) h
theorem LasG.E {X : List Nat} {w w' : World} {c : LV} {E a : List Int} (h : LasG w c E a) (k : Ext w w') : LasG w' c E a := by
 obtain ⟨M, L, R, b, e, d, W⟩ := h;exact ⟨M, L, R, b, e, d.ext k, W.ext k⟩
theorem LasG.ext {w w' : World} {c : LV} {E a : List Int} (h : LasG w c E a) (k : Ext w w') : LasG w' c E a := h.E (X := []) k
theorem gbelow_ok (w : World) (a : Option Addr) (c : Nat) (xs : List Int) (n : Int) (h : InS w (.slice a xs.length c) xs) (V : ∀ x ∈ xs, 0 ≤ x ∧ x < n) : Fn Zp 172 [.slice a xs.length c, iV n] w fun u w' => u = .bool true ∧ w' = w := by
 obtain ⟨_, M⟩ := h.len;refine AG Tryz.func172 rfl Tryz.ntmps172 (go ?_);refine Ah (α := Nat) (fun k => [(1, iV n), (7, .slice a xs.length c), (8, iV (xs.length : Int)), (9, iV (k : Int))]) (fun k W => k ≤ xs.length ∧ W = w) (fun k => xs.length - k) 0 ag ⟨by omega, rfl⟩ ?_;rintro k W Z ⟨P, rfl⟩;refine go ?_;by_cases y : k < xs.length
 ·obtain ⟨x, e⟩ := gl y;obtain ⟨b, o, rfl, T⟩ := h.at e;have := V x (List.mem_of_getElem? e);refine go ?_;exact ⟨k + 1, ⟨rfl, ag, by omega, rfl⟩, by omega⟩
 ·exact EU
theorem gformed_ok (w : World) (c : LV) (E a : List Int) (h : LasG w c E a) (D : E.length ≤ 60) (X : 1 ≤ a.length) (W : a.length ≤ 40) (V : ∀ x ∈ E, 0 ≤ x ∧ x < 64) (K : ∀ x ∈ a, 0 ≤ x ∧ x < 64) : Fn Zp 171 [.agg c.toArray] w fun u w' => u = .bool true ∧ Ext w w' := by
 obtain ⟨M, e, R, b, rfl, g, f⟩ := h;refine AG Tryz.func171 rfl Tryz.ntmps171 (go ?_);refine Aj (L := [.slice M E.length e, .slice R a.length b]) rfl (fun Q d => go ?_);refine AC (gbelow_ok Q M e E 64 (g.ext d.E) V) rfl ?_;rintro _ _ ⟨rfl, rfl⟩;refine go ?_;refine AC (gbelow_ok _ R b a 64 (f.ext d.E) K) rfl ?_;rintro _ _ ⟨rfl, rfl⟩;refine go ?_;exact AA rfl ⟨rfl, d.E⟩
theorem gvalid_ok (w : World) (c : LV) (E a : List Int) (n : Int) (h : LasG w c E a) (D : E.length ≤ 60) (X : 1 ≤ a.length) (W : a.length ≤ 40) (G : n ≤ 64) (V : ∀ x ∈ E, 0 ≤ x ∧ x < n) (K : ∀ x ∈ a, 0 ≤ x ∧ x < n) : Fn Zp 120 [iV n, .agg c.toArray] w fun u w' => u = .bool true ∧ Ext w w' := by
 have s := h;obtain ⟨M, d, R, b, rfl, f, e⟩ := h;refine AG Tryz.func120 rfl Tryz.ntmps120 (go ?_);refine Aj (L := [.slice M E.length d, .slice R a.length b]) rfl (fun Q g => go ?_);refine AC (gformed_ok Q _ E a (s.ext g.E) D X W (fun x h => by have := V x h; omega) (fun x h => by have := K x h; omega)) rfl ?_;rintro _ i ⟨rfl, l⟩;refine go ?_;refine AC (gbelow_ok i M d E n (f.ext mKp) V) rfl ?_;rintro _ _ ⟨rfl, rfl⟩;refine go ?_;refine AC (gbelow_ok _ R b a n (e.ext mKp) K) rfl ?_;rintro _ _ ⟨rfl, rfl⟩;refine go ?_;exact AA rfl ⟨rfl, mKp⟩
theorem gpick_ok (w : World) (c : LV) (E a : List Int) (i : Nat) (x : Int) (h : LasG w c E a) (d : (E ++ a)[i]? = some x) (D : E.length + a.length ≤ 1000) : Fn Zp 278 [.agg c.toArray, iV i] w fun u w' => u = iV x ∧ Ext w w' := by
 obtain ⟨M, l, R, f, rfl, n, m⟩ := h;refine AG Tryz.func278 rfl Tryz.ntmps278 (go ?_);refine Aj (L := [.slice M E.length l, .slice R a.length f]) rfl (fun Q j => ?_);have X := j.E;have k := j.D;refine go ?_;by_cases y : i < E.length
 ·rw [List.getElem?_append_left y] at d;obtain ⟨b, o, rfl, T⟩ := InS.at (n.ext X) d;exact Eb
 ·rw [List.getElem?_append_right U] at d;obtain ⟨b, o, rfl, T⟩ := InS.at (m.ext X) d;have p := (List.getElem?_eq_some_iff.1 d).1;refine go ?_;refine AW (rd 0 14 .done) Al Dk (fun K N I => ⟨Ext K, ?_, ?_⟩)
  ·exact EZ
  have g := X.trans N
  have A : ((i : Int) - (E.length : Int)) % (a.length : Int) = ((i - E.length : Nat) : Int) := by
   rw [← Int.ofNat_sub U];exact Int.emod_eq_of_lt U U
  have q : ∀ V, Ext K V → V.cell? ⟨w.heap.size, 0 + 1, none⟩ = some (.slice (some ⟨b, o, none⟩) a.length f) := fun V e => (N.trans e).cell (k.cell rfl) O;have r : ∀ V, Ext K V → V.cell? ⟨w.heap.size, 0 + 0, none⟩ = some (.slice M E.length l) := fun V e => (N.trans e).cell (k.cell rfl) O;have z : ∀ V, Ext K V → V.cell? ⟨b, o + (i - E.length), none⟩ = some (iV x) := fun V e => (N.trans e).cell T O;refine go ?_;exact AA rfl ⟨rfl, g⟩
theorem greader_ok (w : World) (c : LV) (T : c.length = 2) (X : oneC c) : Fn Zp 256 [.agg c.toArray] w fun u w' => u = .func (.func 277) #[] #[pt w.heap.size, pt (w.heap.size + 1)] ∧ Ext w w' ∧ Blk w' w.heap.size 26 c ∧ Blk w' (w.heap.size + 1) 3 [iV 0] := by
 refine AG Tryz.func256 rfl Tryz.ntmps256 (go ?_);refine Aj (L := c) rfl (fun Q E => go ?_);refine AQ (fun d V => ?_);refine AN (v := iV 0) rfl rfl rfl V.D O (fun b a => go ?_);have e := E.size;have g : Ext Q b := V.E.E a.E O;refine AA rfl ⟨?_, E.E.trans g, E.D.E g O, ?_⟩
 ·rw [← e]; rfl
 ·rw [← e]; exact a.D
def atN (E n i : Nat) : Nat := if i + 1 = n then E else i + 1
theorem gread_ok (w : World) (a b : Nat) (c : LV) (E d : List Int) (i : Nat) (x : Int) (h : LasG w c E d) (V : (E ++ d)[i]? = some x) (D : E.length + d.length ≤ 1000) (H : Blk w a 26 c) (S : Blk w b 3 [iV (i : Int)]) :
  Fn Zp 277 [pt a, pt b] w fun u w' => u = iV x ∧ Keep [b] w w' ∧ Blk w' b 3 [iV (atN E.length (E.length + d.length) i : Int)] := by
 have g := h;obtain ⟨M, t, R, q, rfl, p, o⟩ := h;have k : a ≠ b := fun e => by subst e; have := H.symm.trans S; simp at this
 have n := (List.getElem?_eq_some_iff.1 V).1;rw [List.length_append] at n;refine AG Tryz.func277 rfl Tryz.ntmps277 (go ?_);refine AC (gpick_ok w _ E d i x g V D) rfl ?_;rintro _ Q ⟨rfl, X⟩;have j := H.E X O;have m := S.E X O;refine go ?_;refine AN (v := iV ((i : Int) + 1)) rfl rfl rfl m O (fun f s => ?_);have r := j.E s.E (by simp [k]);have z : Blk f b 3 [iV ((i : Int) + 1)] := s.D;have l : Keep [b] w f := X.any.trans s.E (fun x V _ => V);refine go ?_;by_cases F : i + 1 = E.length + d.length
 ·refine go ?_;refine AN (v := iV (E.length : Int)) rfl rfl rfl z O (fun y L => go ?_);refine AA rfl ⟨rfl, l.trans L.E (fun x V _ => V), ?_⟩;rw [atN, if_pos F]; exact L.D
 ·refine go ?_;refine AA rfl ⟨rfl, l, ?_⟩;rw [atN, if_neg F]; exact z
structure LetG (yv : Value) (X : List Nat) (B cn : Nat) (xs : List Int) (J : Nat → World → Prop) (D : World → Prop) : Prop where
 fn : ∃ y, yv = .func (.yield y) #[] #[]
 E : ∀ {k : Nat} {W W' : World} {Y : List Nat}, J k W → Keep Y W W' → (∀ y ∈ Y, y = cn) → J k W'
 s0 : ∀ {k : Nat} {x : Int} {W : World}, xs[k]? = some x → k + 1 < xs.length → J k W → cn < W.heap.size → YldP Zp yv [iV x] W (fun v W' => v = .bool true ∧ (∃ Y, Keep Y W W' ∧ ∀ y ∈ Y, y ∈ X ∨ cn < y) ∧ J (k + 1) W') (fun _ _ => False)
 s1 : ∀ {k : Nat} {x : Int} {W : World}, xs[k]? = some x → k + 1 = xs.length → J k W → YldP Zp yv [iV x] W (fun v W' => v = .bool false ∧ D W') (fun _ _ => False)
theorem glettersIt_ok {S : Value} {X : List Nat} {i : Nat → World → Prop} {D : World → Prop} (w : World) (e : Nat) (c : LV) (E d : List Int) (H : LetG S X w.heap.size (w.heap.size + 1) (E ++ d) i D) (a0 : Blk w e 26 c) (o : LasG w c E d) (t : ∀ W, Keep X w W → LasG W c E d) (v : E.length + d.length ≤ 1000) (I : 1 ≤ E.length + d.length)
  (g : i 0 w) (n : ∀ x ∈ X, x < w.heap.size) : Fn Zp 255 [S, pt e] w fun _ w' => D w' := by
 obtain ⟨y, rfl⟩ := H.fn;have a1 := o;obtain ⟨B, C, A, b, rfl, a3, a2⟩ := o;refine AG Tryz.func255 rfl Tryz.ntmps255 (go ?_);refine AC (greader_ok w _ rfl (AU rfl)) rfl ?_;rintro _ w1 ⟨rfl, p, a, R⟩;refine go ?_;refine Ah (α := Nat) (fun k => [(0, .func (.yield y) #[] #[]), (3, .func (.func 277) #[] #[pt w.heap.size, pt (w.heap.size + 1)])]) (fun k W => k < E.length + d.length ∧ Keep X w W ∧ Blk W w.heap.size 26 [.slice B E.length C, .slice A d.length b] ∧ Blk W (w.heap.size + 1) 3 [iV (k : Int)] ∧ i k W) (fun k => E.length + d.length - k) 0 ag ⟨by omega, p.any, a, R, H.E g p O⟩ ?_;rintro k W Z ⟨s, T, Q, P, r⟩;refine go ?_;obtain ⟨x, V⟩ := gl (l := E ++ d) (k := k) (by rw [List.length_append]; exact s);refine Av (v1 := []) (v2 := [pt w.heap.size, pt (w.heap.size + 1)]) (vs := []) rfl (gread_ok W _ _ _ E d k x (t W T) V v Q P) rfl ?_;rintro _ W1 ⟨rfl, N, M⟩;have m := H.E r N O;have L := Q.E N O;have z : Keep X w W1 := T.trans N (fun x V h => by simp at V; omega);by_cases F : k + 1 < E.length + d.length
 ·rw [atN, if_neg U] at M;refine W_yield rfl rfl (H.s0 V (by rw [List.length_append]; exact F) m M.lt) ?_;rintro _ q ⟨rfl, ⟨G, j, u⟩, K⟩;refine go ?_;exact ⟨k + 1, ⟨rfl, ag, ⟨by omega, z.trans j (fun x V h => (u x V).resolve_right U), L.E j (fun h => by rcases u _ h with h | h; have := n _ h; omega; omega), M.E j (fun h => by rcases u _ h with h | h; have := n _ h; omega; omega), K⟩⟩, by omega⟩
 ·refine W_yield rfl rfl (H.s1 V (by rw [List.length_append]; omega) m) ?_;rintro _ q ⟨rfl, f⟩;refine go ?_;exact BF rfl f
theorem gletters_ok (w : World) (c : LV) (T : c.length = 2) (X : oneC c) : Fn Zp 201 [.agg c.toArray] w fun v w' => v = .func (.func 255) #[] #[pt w.heap.size] ∧ New w w' 26 c := by
 refine AG Tryz.func201 rfl Tryz.ntmps201 (go ?_);refine Aj (L := c) rfl (fun Q E => go ?_);exact AA rfl ⟨rfl, E⟩
set_option maxHeartbeats 1000000 in
theorem gprefix_ok (w : World) (c : LV) (E d : List Int) (N : Int) (h : LasG w c E d) (hs : E.length ≤ 60) (h1 : 1 ≤ d.length) (h2 : d.length ≤ 40) (V : ∀ x ∈ E, 0 ≤ x ∧ x < 64) (K : ∀ x ∈ d, 0 ≤ x ∧ x < 64) (hN : N = ((E.length + d.length : Nat) : Int)) :
  Fn Zp 173 [.agg c.toArray, iV N] w fun u w' => w'.ownsRow w.heap.size 3 1 u (E.length + d.length) ((E ++ d).map (iV)) ∧ Ext w w' := by
 subst hN;have h0 := h;have a1 : c.length = 2 ∧ oneC c := by obtain ⟨sa, sc, la, lc, rfl, _, _⟩ := h; exact ⟨rfl, AU rfl⟩
 obtain ⟨n, hn⟩ : ∃ n, n = E.length + d.length := ⟨_, rfl⟩;have hxn : (E ++ d).length = n := by rw [List.length_append, hn]
 have hnb : 1 ≤ n ∧ n ≤ 100 := by omega
 rw [← hn];refine Cx Tryz.func173 rfl Tryz.ntmps173 nlr Dk (go ?_);refine Aj (L := c) rfl (fun w1 n1 => ?_);refine Aj (L := [iV (n : Int)]) rfl (fun w2 n2 => ?_);have z1 := n1.size;have z2 := n2.size;have b1 := n1.D.E n2.E O;have b2 := n2.D;have k2 : Ext w w2 := n1.E.trans n2.E;refine go ?_;refine Bh rfl b1 a1.1 (go ?_);refine (AC (gformed_ok w2 c E d (h0.ext k2) hs h1 h2 V K) rfl ?_);rintro _ w3 ⟨rfl, k3⟩;refine go ?_;have b8 := b1.E k3 O;have c0 := b2.E k3 O;have e3 := k2.trans k3;refine W_make0 (n := n) rfl rfl rfl rfl rfl U U (fun w4 n4 o4 => ?_);refine AQ (fun w5 n5 => ?_);refine AN (v := .slice (sm w3.heap.size) 0 n) rfl rfl rfl n5.D O (fun o p6 => go ?_);have z3 := e3.size;have z33 := k3.size;have z4 := n4.size;have z5 := n5.size;have z6 := p6.size;have k46 : Ext w4 o := n5.E.E p6.E O;have a7 : Ext w3 o := n4.E.trans k46;have b9 := b8.E a7 O;have f := c0.E a7 O;have F : Blk o w4.heap.size 24 [.slice (sm w3.heap.size) 0 n] := p6.D;obtain ⟨T, c5⟩ : ∃ T, T = w4.heap.size := ⟨_, rfl⟩;rw [← c5] at F ⊢;have S := Aa o4 k46;have e6 := e3.trans a7;refine Bh rfl b9 a1.1 (go ?_);refine AC (gletters_ok o c a1.1 a1.2) rfl ?_;rintro _ i ⟨rfl, M⟩;refine go ?_;have z7 := M.size;have b7 := M.D;replace S := Aa S M.E;replace F := F.E M.E O;replace f := f.E M.E O;have e7 := e6.trans M.E;refine C_range [] [pt o.heap.size] rfl Dk fun Rdy c9 b6 s P k8 s8 m8 r8 => ?_;replace b7 := b7.E k8 O;replace S := Aa S k8;replace F := F.E k8 O;replace f := f.E k8 O;have e8 := e7.trans k8;obtain ⟨l, c6⟩ : ∃ l, l = w3.heap.size := ⟨_, rfl⟩;rw [← c6] at F S;have lc5 : T < s.heap.size := F.lt;have hz8 : s.heap.size = i.heap.size + 2 := s8;obtain ⟨B, hLs⟩ : ∃ B : LV, B = (E ++ d).map (iV) := ⟨_, rfl⟩;have d0 : B.length = n := by rw [hLs, List.length_map, hxn]
 obtain ⟨X, t⟩ : ∃ X : Nat → World → Prop, ∀ k W, X k W ↔ (∃ v, Ext w W ∧ Blk W T 24 [v] ∧ Blk W w1.heap.size 3 [iV (n : Int)] ∧ W.ownsRow l 3 1 v k (B.take k) ∧ (∀ g, v.ownBlock = some g → g = l ∨ s.heap.size + 1 < g) ∧ Rdy W ∧ W.heap[i.heap.size]? = some (.deferred (some [])) ∧ s.heap.size ≤ W.heap.size) := ⟨_, fun _ _ => Iff.rfl⟩;obtain ⟨D, hD⟩ : ∃ D : World → Prop, ∀ W, D W ↔ (∃ v, Ext w W ∧ Blk W T 24 [v] ∧ W.ownsRow l 3 1 v n B ∧ v.ownBlock ≠ some i.heap.size ∧ v.ownBlock ≠ some (i.heap.size + 1) ∧ b6 (.exit 0) W ∧ W.heap[i.heap.size]? = some (.deferred (some [])) ∧ s.heap.size ≤ W.heap.size) := ⟨_, fun _ => Iff.rfl⟩
 have a8 : ∀ (k : Nat) (x : Int) (W : World), (E ++ d)[k]? = some x → X k W → (k + 1 < n → s.heap.size + 1 < W.heap.size) → YldP Zp (.func (.yield (i.heap.size + 1)) #[] #[]) [iV x] W
   (fun u Z => (k + 1 < n → u = .bool true ∧ (∃ a9, Keep a9 W Z ∧ ∀ y ∈ a9, y ∈ [T, l, i.heap.size + 1] ∨ s.heap.size + 1 < y) ∧ X (k + 1) Z) ∧ (k + 1 = n → u = .bool false ∧ D Z)) (fun _ _ => False) := by
  intro k x W V q a5;obtain ⟨v, j1, j2, Q, I, j5, a2, a0, b3⟩ := (t _ _).1 q;have c7 := (List.getElem?_eq_some_iff.1 V).1;rw [hxn] at c7;have c3 : B[k]? = some (iV x) := by rw [hLs, List.getElem?_map, V]; rfl
  refine P.round a2 rfl (go ?_);refine ⟨a2, fun W2 a e0 y2 => ?_⟩;have G : ∀ {b}, b ∈ v.ownBlock.toList → v.ownBlock = some b := fun V => Option.mem_toList.1 V;have r : ∀ {b}, v.ownBlock = some b → b = l ∨ s.heap.size + 1 < b := fun V => j5 _ V;replace j2 := j2.E a Dl;replace Q := Q.E a Dl;replace I := Ad I a (fun g z h => by simp at h; subst h; have := r z; omega);replace a0 := (a.block _ U O).trans a0;have e2 := j1.E a Dl;have b0 : ∀ g, v.ownBlock = some g → l ≤ g ∧ g < W2.heap.size := fun g z => Ab I z;refine go ?_;refine AL (out := [iV x]) rfl U (by rw [madeInt]; rfl) (fun W3 p => ?_);have oz := p.own (n := 1) (size := 1) rfl Dq (Nat.le_refl _);have e1 := p.size;refine Ak (ok := AZ) (v := v) rfl rfl (Aa I p.E) (AV oz fun _ _ => trivial) U rfl rfl (AU rfl) U U U (fun j W4 a4 => ?_);have R := a4.E;have z4' := R.size;have c4 : T ∉ v.ownBlock.toList := fun h => by have := r (G h); omega
  refine AN (v := j) rfl rfl (own_oneC' a4.own) ((j2.E p.E O).E R c4) O (fun W5 A => go ?_);have e4 := A.size;have b5 : Blk W5 T 24 [j] := A.D
  have hv4 : ∀ g, j.ownBlock = some g → v.ownBlock = some g ∨ g = W3.heap.size := fun g z => by
   rcases a4.D with e | e
   ·exact .inl (e ▸ z)
   ·rw [e] at z; exact .inr (Option.some.inj z).symm
  have hq2 := a.size
  have a6 : ∀ g, j.ownBlock = some g → g = l ∨ s.heap.size ≤ g := fun g z => by
   rcases hv4 g z with e | e
   ·have := r e; omega
   ·omega
  have m6 : j.ownBlock ≠ some T := fun h => by have := a6 _ h; omega
  have m9 : j.ownBlock ≠ some i.heap.size := fun h => by have := a6 _ h; omega
  have m7 : j.ownBlock ≠ some (i.heap.size + 1) := fun h => by have := a6 _ h; omega
  have o5 := Ad a4.own A.E (fun g z h => by simp at h; subst h; exact m6 z);have c1 := ((Q.E p.E O).E R (fun h => by have := b0 _ (G h); omega)).E A.E Dl;have m5 := (A.E.block _ U Dl).trans ((R.block _ U (fun h => by have := r (G h); omega)).trans ((p.E.block _ U O).trans a0));have y5 := P.bsy (P.bsy (P.bsy y2 p.E O) R (fun h => by have := r (G h); omega)) A.E Dl;have e5 := ((e2.trans p.E).E R (fun y K => by have := b0 _ (G K); omega)).E A.E Dl;obtain ⟨va, vc, rfl, _⟩ := own_ints o5;have c8 : B.take k ++ [iV x] = B.take (k + 1) := by rw [List.take_add_one, c3]; rfl
  rw [c8] at o5;by_cases h0 : k + 1 < n
  ·have hcn' := a5 h0;refine go ?_;have kk : Keep (T :: l :: (i.heap.size + 1) :: v.ownBlock.toList) W W5 := (((a.mono (fun x V => by simp at V; simp [V])).trans p.E (fun x V => by cases V)).trans R (fun x V _ => by simp only [List.mem_cons]; exact .inr (.inr (.inr V)))).trans A.E (fun x V _ => by simp at V; simp [V]);refine Q_rnd y5 fun W6 m z6 y6 => ⟨fun _ => ⟨rfl, ⟨_, kk.trans m (fun x V _ => by simp at V; simp [V]), fun y K => ?_⟩, (t _ _).2 ⟨_, e5.E m Dl, b5.E m Dl, c1.E m Dl, Ad o5 m (fun g z h => by simp at h; subst h; exact m7 z), fun g z => ?_, y6, (m.block _ U O).trans m5, by omega⟩⟩, fun h => absurd h U⟩
   ·simp only [List.mem_cons, List.not_mem_nil, or_false] at K ⊢;rcases K with h | h | h | h
    ·exact .inl (.inl h)
    ·exact .inl (.inr (.inl h))
    ·exact .inl (.inr (.inr h))
    ·rcases r (G h) with h | h
     ·exact .inl (.inr (.inl h))
     ·exact .inr h
   ·rcases hv4 g z with e | e
    ·exact r e
    ·right; omega
  ·obtain rfl : n = k + 1 := by omega
   refine go ?_;rw [List.take_of_length_le U] at o5;refine Q_rnd_exit y5 fun W6 m z6 y6 => ⟨(fun h => absurd h U), fun _ => ⟨rfl, (hD _).2 ⟨_, e5.E m Dl, b5.E m Dl, Ad o5 m (fun g z h => by simp at h; subst h; exact m7 z), m9, m7, y6, (m.block _ U O).trans m5, by omega⟩⟩⟩
 have H : LetG (.func (.yield (i.heap.size + 1)) #[] #[]) [T, l, i.heap.size + 1] s.heap.size (s.heap.size + 1) (E ++ d) X D := by
  refine ⟨⟨_, rfl⟩, fun q k C => ?_, fun {k x W} V hk q a5 => ?_, fun {k x W} V hk q => ?_⟩
  ·obtain ⟨v, j1, j2, Q, I, j5, a2, a0, b3⟩ := (t _ _).1 q;exact (t _ _).2 ⟨v, j1.E k (fun x V => by have := C x V; omega), j2.E k (fun h => by have := C _ h; omega), Q.E k (fun h => by have := C _ h; omega), Ad I k (fun g z h => by have := C _ h; have := j5 _ z; omega), j5, P.rdy a2 k (fun h => by have := C _ h; omega), (k.block _ U (fun h => by have := C _ h; omega)).trans a0, Nat.le_trans b3 k.size⟩
  ·exact YldP.mono (a8 k x W V q fun _ => a5) (fun v Z h => h.1 U) (fun _ _ h => h)
  ·exact YldP.mono (a8 k x W V q (fun h => absurd h U)) (fun v Z h => h.2 U) (fun _ _ h => h)
 refine Fn.mono (glettersIt_ok s o.heap.size c E d H b7 (h0.ext e8) (fun W kW => h0.ext (e8.E kW (fun y K => by simp at K; omega))) U U ((t _ _).2 ⟨_, e8, F, f, S, (fun g z => by have e := Option.some.inj z; simp only at e; omega), r8, m8, Nat.le_refl _⟩) (fun x V => by simp at V; omega)) ?_;rintro _ w9 hd;obtain ⟨v, d1, d2, d3, d4, d5, d6, d7, d8⟩ := (hD _).1 hd;refine .inr ⟨_, d6, fun w10 a3 s10 => ?_⟩;unfold behind;clear t H P a8 r8 m8 b7;replace d2 := d2.E a3 Dl;replace d3 := Ad d3 a3 (fun g z h => by simp at h; subst h; exact d5 z);replace d7 := (a3.block _ U O).trans d7;have c2 := d1.E a3 Dl;obtain ⟨va, vc, rfl, _⟩ := own_ints d3;refine go ?_;refine Bt d7 fun d9 b4 s11 => ?_;refine finD_ret1 rfl ⟨?_, c2.E b4 Dl⟩;rw [← hLs];exact Bf (Ad d3 b4 (fun g z h => by simp at h; subst h; exact d4 z)) U
noncomputable def tv (p : Prop) : Bool := @decide p (Classical.propDecidable p)
theorem tv_iff {p : Prop} : tv p = true ↔ p := by unfold tv; exact @decide_eq_true_iff p (Classical.propDecidable p)
theorem CO {p q : Prop} (h : p ↔ q) : tv p = tv q := by rw [propext h]
theorem tv_eq {p : Prop} {b : Bool} (h : b = true ↔ p) : b = tv p := by
 cases b with
 | true => exact (tv_iff.2 (h.1 rfl)).symm
 | false => cases hp : tv p with
  | true => exact h.2 (tv_iff.1 hp)
  | false => rfl
theorem tv_not (p : Prop) : (!tv p) = tv (¬ p) := tv_eq (by rw [Bool.not_eq_true', ← Bool.not_eq_true, tv_iff])
theorem tv_and (p q : Prop) : (tv p && tv q) = tv (p ∧ q) := tv_eq (by rw [Bool.and_eq_true, tv_iff, tv_iff])
theorem tv_or (p q : Prop) : (tv p || tv q) = tv (p ∨ q) := tv_eq (by rw [Bool.or_eq_true, tv_iff, tv_iff])
def plcN (N B k : Nat) : Nat := if k < N then k else B
def inU (P Q : Nat → Prop) (N t : Nat) : Prop := ∃ k, t ≤ k ∧ k < N ∧ Q k ∧ ∀ j, t ≤ j → j < k → P j
theorem inU_step (P Q : Nat → Prop) {N t : Nat} (h : t + 1 < N) : inU P Q N t ↔ Q t ∨ P t ∧ inU P Q N (t + 1) := by
 constructor
 ·rintro ⟨k, X, W, R, w⟩;by_cases e : k = t
  ·subst e; exact .inl R
  ·exact .inr ⟨w t (Nat.le_refl _) U, k, by omega, W, R, fun j a b => w j U b⟩
 ·rintro (c | ⟨c, k, X, W, R, w⟩)
  ·exact ⟨t, Nat.le_refl _, by omega, c, fun j a b => by omega⟩
  ·refine ⟨k, by omega, W, R, fun j a b => ?_⟩;by_cases e : j = t
   ·subst e; exact c
   ·exact w j U b
theorem inU_last (P Q : Nat → Prop) {N t : Nat} (h : t + 1 = N) : inU P Q N t ↔ Q t := by
 constructor
 ·rintro ⟨k, X, W, R, _⟩;obtain rfl : k = t := by omega
  exact R
 ·intro H;exact ⟨t, Nat.le_refl _, by omega, H, fun j a b => by omega⟩
theorem until_in {P Q : Nat → Prop} {B p : Nat} (d : 1 ≤ p) (i : Per B p P) (T : Per B p Q) : CT P Q B ↔ inU P Q (B + p) B := by
 constructor
 ·rintro ⟨k, X, W, R⟩
  induction k using Nat.strongRecOn with
  | _ k ih =>
  by_cases c : k < B + p
  ·exact ⟨k, X, c, W, R⟩
  ·refine ih (k - p) U U ?_ fun j a b => R j a U;have := T (k - p) U;rw [← this, show k - p + p = k by omega]; exact W
 ·rintro ⟨k, X, _, W, R⟩;exact ⟨k, X, W, R⟩
noncomputable def stU (P Q : Nat → Prop) (N i t : Nat) : Bool := if i ≤ N then (if N ≤ t + i then tv (inU P Q N t) else false) else if 2 * N ≤ t + i then tv (CT P Q t) else tv (inU P Q N t)
theorem stU_lo {P Q : Nat → Prop} {N i t : Nat} (h : i ≤ N) : stU P Q N i t = if N ≤ t + i then tv (inU P Q N t) else false := if_pos h
theorem stU_hi {P Q : Nat → Prop} {N i t : Nat} (h : N ≤ i) (S : t < N) : stU P Q N i t = if 2 * N ≤ t + i then tv (CT P Q t) else tv (inU P Q N t) := by
 by_cases F : i = N
 ·subst F;rw [stU_lo (Nat.le_refl _), if_pos U, if_neg U]
 ·exact if_neg U
theorem stU_step {P Q : Nat → Prop} {B p N i : Nat} (d : 1 ≤ p) (c : N = B + p) (b : Per B p P) (T : Per B p Q) (F : i < 2 * N) (x : Nat) (V : x < N) :
  stU P Q N (i + 1) x = if x = N - 1 - i % N then (tv (Q x) || tv (P x) && stU P Q N i (plcN N B (x + 1))) else stU P Q N i x := by
 have h : CT P Q N ↔ inU P Q N B := by
  rw [c, ← until_in d b T];exact Iff.of_eq (until_per b T B (Nat.le_refl _))
 by_cases X : i < N
 ·rw [Nat.mod_eq_of_lt X, stU_lo (i := i + 1) U];by_cases a : x = N - 1 - i
  ·rw [if_pos a, if_pos (show N ≤ x + (i + 1) by omega), stU_lo U];by_cases M : x + 1 < N
   ·rw [plcN, if_pos M, if_pos (show N ≤ x + 1 + i by omega), tv_and, tv_or];exact CO (inU_step P Q M)
   ·rw [plcN, if_neg M, if_neg (show ¬ N ≤ B + i by omega), Bool.and_false, Bool.or_false];exact CO (inU_last P Q U)
  ·rw [if_neg a, stU_lo U];by_cases W : N ≤ x + i
   ·rw [if_pos (show N ≤ x + (i + 1) by omega), if_pos W]
   ·rw [if_neg (show ¬ N ≤ x + (i + 1) by omega), if_neg W]
 ·have A : i % N = i - N := by rw [Nat.mod_eq_sub_mod U, Nat.mod_eq_of_lt U]
  rw [A, stU_hi (i := i + 1) U V];by_cases a : x = N - 1 - (i - N)
  ·rw [if_pos a, if_pos (show 2 * N ≤ x + (i + 1) by omega)];by_cases M : x + 1 < N
   ·rw [plcN, if_pos M, stU_hi U M, if_pos (show 2 * N ≤ x + 1 + i by omega), tv_and, tv_or];exact CO (until_step P Q x)
   ·rw [plcN, if_neg M, stU_lo (show i ≤ N by omega), if_pos (show N ≤ B + i by omega), tv_and, tv_or];refine CO ?_;rw [until_step, show x + 1 = N by omega, h]
  ·rw [if_neg a, stU_hi U V];by_cases W : 2 * N ≤ x + i
   ·rw [if_pos (show 2 * N ≤ x + (i + 1) by omega), if_pos W]
   ·rw [if_neg (show ¬ 2 * N ≤ x + (i + 1) by omega), if_neg W]
theorem stU_zero (P Q : Nat → Prop) {N t : Nat} (S : t < N) : stU P Q N 0 t = false := by
 unfold stU;rw [if_pos U, if_neg U]
theorem stU_end (P Q : Nat → Prop) {N t : Nat} (h : 1 ≤ N) : stU P Q N (2 * N) t = tv (CT P Q t) := by
 unfold stU;rw [if_neg U, if_pos U]
noncomputable def stR (P Q : Nat → Prop) (N i t : Nat) : Bool := !stU (fun t => ¬ P t) (fun t => ¬ Q t) N i t
theorem stR_step {P Q : Nat → Prop} {B p N i : Nat} (a : 1 ≤ p) (c : N = B + p) (b : Per B p P) (T : Per B p Q) (F : i < 2 * N) (x : Nat) (V : x < N) :
  stR P Q N (i + 1) x = if x = N - 1 - i % N then (tv (Q x) && (tv (P x) || stR P Q N i (plcN N B (x + 1)))) else stR P Q N i x := by
 unfold stR;rw [stU_step a c (not_per b) (not_per T) F x V]
 split
 ·rw [← tv_not, ← tv_not];cases tv (Q x) <;> cases tv (P x) <;> simp
 ·rfl
theorem stR_zero (P Q : Nat → Prop) {N t : Nat} (S : t < N) : stR P Q N 0 t = true := by rw [stR, stU_zero _ _ S]; rfl
theorem stR_end (P Q : Nat → Prop) {N t : Nat} (h : 1 ≤ N) : stR P Q N (2 * N) t = tv (relS P Q t) := by
 rw [stR, stU_end _ _ h, tv_not];exact CO (rel_not P Q t).symm
theorem nest_le : ∀ f : Fml, DB f ≤ szF f
 | .mk op nm v b args => by
  have := nestL_le args;rw [DB, szF]; split <;> omega
where nestL_le : ∀ l : LF, nestL l ≤ szL l
 | [] => by simp [nestL]
 | a :: l => by have := nest_le a; have := nestL_le l; rw [nestL, szL]; omega
theorem nestL_take {l : LF} {k : Nat} {x : Fml} (h : l[k]? = some x) : nestL (l.take (k + 1)) = max (nestL (l.take k)) (DB x) := by
 induction l generalizing k with
 | nil => cases h
 | cons a l ih =>
  cases k with
  | zero => cases h; simp [nestL]
  | succ k => simp only [List.take_succ_cons, nestL, ih Dy]; omega
set_option maxHeartbeats 1000000 in
theorem gnested_ok : ∀ (n : Nat) (w : World) (b o : Nat) (f : Fml), dpF f ≤ n → szF f ≤ 1000000 → PF AZ w b o f → Fn Zp 174 [.pointer (some ⟨b, o, none⟩)] w fun u w' => u = iV (DB f : Int) ∧ Ext w w' := by
 intro n
 induction n with
 | zero => intro w b o f G; rw [BP] at G; omega
 | succ n ih =>
 intro w b o f G g I;have P : DB f ≤ 1000000 := Nat.le_trans (nest_le f) g;rw [BP] at G;obtain ⟨h, B, L, S, X, q2, c, C, A⟩ := I.all;obtain ⟨N, Q, v, d, j⟩ := f;simp only [Fml.op, Fml.name, Fml.val, Fml.args] at *;rw [szF] at g
 have s : ∀ (k : Nat) (a : Fml), j[k]? = some a → ∀ W, Ext w W → ∃ r p, h = some ⟨r, p, none⟩ ∧ Fn Zp 174 [.pointer (some ⟨r, p + k * 5, none⟩)] W fun u w' => u = iV (DB a : Int) ∧ Ext W w' := fun k a H W M => by
  obtain ⟨r, p, e, x⟩ := A k a H;have F := List.mem_of_getElem? H;have := Ba F;have := Bq F;exact ⟨r, p, e, ih W r _ a U U (x.E M (fun _ _ => by simp))⟩
 rw [DB] at P ⊢;refine AG Tryz.func174 rfl Tryz.ntmps174 (go ?_);refine Ah (α := Nat) (fun k => [(0, .pointer (some ⟨b, o, none⟩)), (3, iV (nestL (j.take k) : Int)), (9, iV (j.length : Int)), (10, iV (k : Int))]) (fun k W => k ≤ j.length ∧ Ext w W) (fun k => j.length - k) 0 ag ⟨by omega, Ext.refl _⟩ ?_;rintro k W Z ⟨D, T⟩;have a0 := T.cell C O;have V := T.cell S O;refine go ?_;by_cases t : k < j.length
 ·obtain ⟨y, K⟩ := gl t;obtain ⟨r, p, rfl, E⟩ := s k y K W T;refine go ?_;refine AC E rfl ?_;rintro _ w4 ⟨rfl, z⟩;refine W_max rfl rfl (go ?_);refine ⟨k + 1, ⟨rfl, ⟨rfl, ?_, rfl, nk k, trivial⟩, ⟨by omega, T.trans z⟩⟩, by omega⟩;show iV (max (nestL (j.take k) : Int) (DB y : Int)) = _;rw [nestL_take K]; exact congrArg _ U
 ·obtain rfl : k = j.length := by omega
  rw [List.take_length];refine go ?_;by_cases q : N = 15
  ·rw [if_pos (.inl q)] at P ⊢;exact FN
  by_cases R : N = 16
  ·rw [if_pos (.inr (.inl R))] at P ⊢;exact FN
  by_cases i : N = 17
  ·rw [if_pos (.inr (.inr (.inl i)))] at P ⊢;exact FN
  by_cases l : N = 18
  ·rw [if_pos (.inr (.inr (.inr (.inl l))))] at P ⊢;exact FN
  by_cases m : N = 19
  ·rw [if_pos (.inr (.inr (.inr (.inr m))))] at P ⊢;exact FN
  rw [if_neg U] at P ⊢;exact FN
structure AxG (w : World) (t : Nat) (S : List Sgn) (xs : List Int) (m p B : Nat) : Prop where
 len : xs.length = m + p ∧ 1 ≤ p ∧ m ≤ B ∧ B + p ≤ 1000000
 D : ∃ sa sc lb lo lc, Blk w t 182 [.slice sa S.length sc, .slice (some ⟨lb, lo, none⟩) xs.length lc, iV (m : Int), iV (B : Int), iV ((B + p : Nat) : Int)] ∧ SlAt sgnR AZ w (.slice sa S.length sc) S ∧
  ∀ (k : Nat) (x : Int), xs[k]? = some x → ∃ g rc, w.cell? ⟨lb, lo + k, none⟩ = some (.slice (sm g) S.length rc) ∧ ∀ i, i < S.length → w.cell? ⟨g, 0 + i, none⟩ = some (iV (valS S x i))
theorem AxG.ext {w w' : World} {t : Nat} {S : List Sgn} {xs : List Int} {m p B : Nat} (h : AxG w t S xs m p B) (k : Ext w w') : AxG w' t S xs m p B := by
 obtain ⟨M, l, L, c, e, b, X, W, R⟩ := h;refine ⟨M, l, L, c, e, b, X.E k O, W.ext k, fun j x y => ?_⟩;obtain ⟨g, f, d, a⟩ := R j x y;exact ⟨g, f, k.cell d O, fun i F => k.cell (a i F) O⟩
set_option maxHeartbeats 1000000 in
theorem gplace_ok (w : World) (t : Nat) (S : List Sgn) (xs : List Int) (m p B : Nat) (k : Nat) (h : AxG w t S xs m p B) (P : k ≤ B + p) : Fn Zp 78 [pt t, iV (k : Int)] w fun u w' => u = iV (plcN (B + p) B k : Int) ∧ Ext w w' := by
 obtain ⟨⟨Z, v, Q, i⟩, M, L, x, c, b, a, _, _⟩ := h;refine AG Tryz.func78 rfl Tryz.ntmps78 (go ?_);unfold plcN;by_cases y : k < B + p
 ·rw [if_pos y];exact Eg
 ·obtain rfl : k = B + p := by omega
  rw [if_neg y];refine go ?_;refine AW (rd 0 22 .done) Al Dk (fun K N I => ⟨Ext K, ?_, ?_⟩)
  ·exact EZ
  have z : ∀ V, Ext K V → V.cell? ⟨t, 0 + 3, none⟩ = some (iV (B : Int)) := fun V e => (a.E (N.trans e) O).cell rfl;have l : ∀ V, Ext K V → V.cell? ⟨t, 0 + 4, none⟩ = some (iV ((B + p : Nat) : Int)) := fun V e => (a.E (N.trans e) O).cell rfl;have A : (((B + p : Nat) : Int) - (B : Int)) % (((B + p : Nat) : Int) - (B : Int)) = 0 := Int.emod_self;refine go ?_;refine AA rfl ⟨?_, N⟩;show iV ((B : Int) + (((B + p : Nat) : Int) - (B : Int)) % (((B + p : Nat) : Int) - (B : Int))) = _;rw [A, Int.add_zero]
def lixN (m p k : Nat) : Nat := if k < m + p then k else m + (k - m) % p
theorem lixN_lt {m p : Nat} (v : 1 ≤ p) (k : Nat) : lixN m p k < m + p := by
 unfold lixN
 split
 ·assumption
 ·have := Nat.mod_lt (k - m) (show 0 < p by omega); omega
set_option maxHeartbeats 1000000 in
theorem gvalue_ok (w : World) (t : Nat) (S : List Sgn) (xs : List Int) (m p B : Nat) (k i : Nat) (x : Int) (h : AxG w t S xs m p B) (P : k ≤ B + p) (f : xs[lixN m p k]? = some x) (F : i < S.length) : Fn Zp 209 [pt t, iV (k : Int), iV (i : Int)] w fun u w' => u = iV (valS S x i) ∧ Ext w w' := by
 obtain ⟨⟨z, v, Q, C⟩, H, L, n, q, o, a, _, d⟩ := h;obtain ⟨g, D, G, E⟩ := d _ x f;have Z := E i F;have y := lixN_lt (m := m) v k;refine AG Tryz.func209 rfl Tryz.ntmps209 (go ?_);by_cases b : k < m + p
 ·have e : lixN m p k = k := if_pos b;rw [e] at G;exact Eg
 ·have e : lixN m p k = m + (k - m) % p := if_neg b;refine go ?_;refine AW (rd 0 23 .done) Al Dk (fun K N I => ⟨Ext K, ?_, ?_⟩)
  ·exact EZ
  have c : ∀ V, Ext K V → V.cell? ⟨t, 0 + 1, none⟩ = some (.slice (some ⟨n, q, none⟩) xs.length o) := fun V e => (a.E (N.trans e) O).cell rfl;have M : ∀ V, Ext K V → V.cell? ⟨t, 0 + 2, none⟩ = some (iV (m : Int)) := fun V e => (a.E (N.trans e) O).cell rfl
  have A : (m : Int) + ((k : Int) - (m : Int)) % ((xs.length : Int) - (m : Int)) = ((lixN m p k : Nat) : Int) := by
   rw [e, show (xs.length : Int) - (m : Int) = (p : Int) by omega, show (k : Int) - (m : Int) = ((k - m : Nat) : Int) by omega, ← Int.natCast_emod, ← Int.natCast_add]
  have j : 0 ≤ ((k : Int) - (m : Int)) % ((xs.length : Int) - (m : Int)) := Int.emod_nonneg _ U;refine go ?_;have l := a.E N O;have r := N.cell G O;have s := N.cell Z O;refine go ?_;exact AA rfl ⟨rfl, N⟩
set_option maxHeartbeats 2000000 in
theorem gaxisOf_ok (w : World) (M : Option Addr) (C : Nat) (S : List Sgn) (b o : Nat) (f : Fml) (c : LV) (E d : List Int) (hS : SlAt sgnR AZ w (.slice M S.length C) S) (hv : A6 S = true) (hf : PF AZ w b o f) (hz : szF f ≤ 10000) (hl : LasG w c E d)
  (hs : E.length ≤ 60) (h1 : 1 ≤ d.length) (h2 : d.length ≤ 40) (hp : ∀ x ∈ E, 0 ≤ x ∧ x < CN S) (hq : ∀ x ∈ d, 0 ≤ x ∧ x < CN S) (hK : KY w) (hN : 10 ≤ w.heap.size) :
  Fn Zp 121 [.slice M S.length C, .pointer (some ⟨b, o, none⟩), .agg c.toArray] w fun u w' => ∃ t, u = pt t ∧ Ext w w' ∧ AxG w' t S (E ++ d) E.length d.length (E.length + DB f * d.length) := by
 obtain ⟨e5, e6⟩ := num_valid hv;have h6 : S.length ≤ 6 := (DI hv).2.1;have e7 := nest_le f;have e8 : DB f * d.length ≤ 10000 * 40 := Nat.mul_le_mul U h2;have c9 := hl;obtain ⟨d8, d7, R, B, rfl, f0, hlp⟩ := hl;obtain ⟨m, a0⟩ : ∃ m, m = E ++ d := ⟨_, rfl⟩;have b9 : m.length = E.length + d.length := by rw [a0, List.length_append]
 have d5 : ∀ x ∈ m, 0 ≤ x ∧ x < CN S := fun x p => by
  rw [a0] at p;exact (List.mem_append.1 p).elim (hp x) (hq x)
 refine AG Tryz.func121 rfl Tryz.ntmps121 (go ?_);refine Aj (L := [.slice d8 E.length d7, .slice R d.length B]) rfl (fun Q n1 => ?_);have b1 := n1.D;have z1 := n1.size;refine go ?_;refine Aj (L := [.slice M S.length C, .slice none 0 0, iV (E.length : Int), iV 0, iV 0]) rfl (fun w2 n2 => ?_);have z2 := n2.size;have c2 := b1.E n2.E O;have k2 : Ext w w2 := n1.E.trans n2.E;refine go ?_;refine AC (gprefix_ok w2 _ E d _ (c9.ext k2) hs h1 h2 (fun x p => by have := hp x p; omega) (fun x p => by have := hq x p; omega) (Int.natCast_add _ _).symm) rfl ?_;rintro u P ⟨o3, k3⟩;rw [← a0, ← b9] at o3;obtain ⟨pa, c1, rfl, a3⟩ := own_ints o3;obtain ⟨x0, a6⟩ := gl (l := m) (k := 0) U;obtain ⟨pg, a7, rfl, _⟩ := a3 0 (iV x0) (by rw [List.getElem?_map, a6]; rfl);have e3 := k2.trans k3;have c3 := c2.E k3 O;have b0 := n2.D.E k3 O;have z3 := k3.size;have e9 : w2.heap.size ≤ pg := (Ab o3 rfl).1
 have c8 : ∀ (k : Nat) (x : Int), m[k]? = some x → P.cell? ⟨pg, a7 + k, none⟩ = some (iV x) := fun k x hk => by
  obtain ⟨g, o', e, h⟩ := a3 k (iV x) (by rw [List.getElem?_map, hk]; rfl);cases e; exact h
 clear a3 o3;refine go ?_
 refine Ah (α := Nat × Value × LV) (fun | (k, _, _) => [(0, .slice M S.length C), (1, .pointer (some ⟨b, o, none⟩)), (5, pt w.heap.size), (7, pt Q.heap.size), (26, .slice (some ⟨pg, a7, none⟩) m.length c1), (27, .int .i64 (m.length : Int)), (28, .int .i64 (k : Int))])
  (fun | (k, v, a), W => k ≤ m.length ∧ Ext w W ∧ Keep [Q.heap.size] P W ∧ Blk W Q.heap.size 182 [.slice M S.length C, v, .int .i64 (E.length : Int), .int .i64 0, .int .i64 0] ∧ W.ownsRow P.heap.size 24 1 v k a ∧ RwsAt W P.heap.size v.ownBlock a S (m.take k)) (fun | (k, _, _) => m.length - k) (0, .slice none 0 0, []) ag ⟨by omega, e3, Keep.refl _ _, b0, ⟨rfl, .inl ⟨rfl, rfl⟩⟩, rfl, fun k u x h => by cases h⟩ ?_
 rintro ⟨k, v, a⟩ W fr ⟨hk, T, a1, bW, oW, F⟩;have zW := a1.size;have lW := bW.lt;have f1 := b0.lt;have I : ∀ g, v.ownBlock = some g → P.heap.size ≤ g ∧ g < W.heap.size := fun g z => Ab oW z;have a9 := c3.E a1 Dl;refine go ?_;by_cases d1 : k < m.length
 ·obtain ⟨x, p⟩ := gl d1;obtain ⟨a6, d4⟩ := d5 x (List.mem_of_getElem? p);have d9 := a1.cell (c8 k x p) (fun h => by simp at h; omega);refine go ?_;refine W_make1 (n := S.length) rfl rfl rfl rfl rfl U U (fun wa na => ?_);have za := na.size;have ka := na.E;have e1 : Ext w wa := T.trans ka;refine go ?_
  refine Ah (α := Nat) (fun i => [(0, .slice M S.length C), (1, .pointer (some ⟨b, o, none⟩)), (5, pt w.heap.size), (7, pt Q.heap.size), (9, iV x), (10, .slice (sm W.heap.size) S.length S.length), (26, .slice (some ⟨pg, a7, none⟩) m.length c1), (27, iV (m.length : Int)), (28, iV (k : Int)), (36, iV (S.length : Int)), (37, iV (i : Int))])
   (fun i q => i ≤ S.length ∧ Ext W q ∧ Blk q W.heap.size 3 (valsC S x i ++ List.replicate (S.length - i) (iV 0))) (fun i => S.length - i) 0 ag ⟨by omega, ka, na.D⟩ ?_
  rintro i q fi ⟨hi, X, bU⟩;refine go ?_;by_cases hil : i < S.length
  ·have eU := T.trans X;refine go ?_;refine AC (value_ok q _ S x i (hS.ext eU) (hK.E eU O) (Nat.le_trans hN eU.size) hv a6 d4 hil) rfl ?_;rintro _ U1 ⟨rfl, k1⟩;have c4 := bU.E k1 O;refine go ?_;refine AN (v := iV (valS S x i)) rfl rfl rfl c4 (by simp [valsC_len]; omega) (fun U2 s => ?_);refine go ?_;have bU2 := s.D;rw [Nat.zero_add, set_fill _ _ _ _ _ (valsC_len S x i) hil, ← valsC_succ] at bU2;exact ⟨i + 1, ⟨rfl, ag, ⟨by omega, (X.trans k1).E s.E O, bU2⟩⟩, by omega⟩
  ·obtain rfl : i = S.length := by omega
   rw [Nat.sub_self, List.replicate_zero, List.append_nil] at bU;have c5 := bW.E X O;have oU := Aa oW X;have zU := X.size;have lU := bU.lt;refine go ?_;refine Ce (out := [.slice (sm W.heap.size) S.length S.length]) rfl U rfl rfl (fun U1 G => ?_);have oz := G.own (n := 1) (size := 1) rfl Dq (Nat.le_refl _);have y1 := G.size;refine Ak (ok := AZ) (v := v) rfl rfl (Aa oU G.E) (AV oz fun _ _ => trivial) U rfl rfl (AU rfl) U U U (fun v4 U2 D => ?_);have hm : ∀ {b}, b ∈ v.ownBlock.toList → v.ownBlock = some b := fun p => Option.mem_toList.1 p;have Z := (c5.E G.E O).E D.E (fun h => by have := I _ (hm h); omega);refine go ?_;refine AN (v := v4) rfl rfl (own_oneC' D.own) Z O (fun U3 A => go ?_);have f2 := D.E.size;have f3 := A.size
   have a4 : ∀ g, v4.ownBlock = some g → v.ownBlock = some g ∨ g = U1.heap.size := fun g z => by
    rcases D.D with e | e
    ·exact .inl (e ▸ z)
    ·rw [e] at z; exact .inr (Option.some.inj z).symm
   have kk : Ext q U1 := G.E;have kb : ∀ {g : Nat} {L : LV}, Blk q g 3 L → P.heap.size ≤ g → v.ownBlock ≠ some g → Blk U3 g 3 L := fun h z hn => ((h.E kk O).E D.E (fun h => hn (hm h))).E A.E Dl;have b8 : m.take (k + 1) = m.take k ++ [x] := by rw [List.take_add_one, p]; rfl
   have b5 : a.length = k := by rw [F.1, List.length_take]; omega
   refine ⟨(k + 1, v4, a ++ [.slice (sm W.heap.size) S.length S.length]), ⟨rfl, ag, ⟨by omega, ?_, ?_, A.D, ?_, ?_, ?_⟩⟩, by simp only; omega⟩
   ·exact (((T.trans X).trans kk).E D.E (fun y K => by have := I _ (hm K); omega)).E A.E Dl
   ·exact (((a1.trans X (fun x h => by cases h)).trans kk (fun x h => by cases h)).trans D.E (fun y K h => by have := I _ (hm K); omega)).trans A.E (fun x h _ => h)
   ·exact Ad D.own A.E (fun g z h => by simp at h; exact (a4 g z).elim (fun e => by have := I _ e; omega) (fun e => by omega))
   ·rw [b8, List.length_append, List.length_append, F.1]; rfl
   ·intro j u y H K;rw [b8] at K;have d0 : (m.take k).length = k := by rw [← F.1]; exact b5
    by_cases e0 : j < k
    ·rw [List.getElem?_append_left U] at H K;obtain ⟨g, rfl, hB, b6, z⟩ := F.2 j u y H K;have := z.lt;exact ⟨g, rfl, hB, fun e => (a4 g e.symm).elim (fun h => b6 h.symm) (fun h => by omega), kb (z.E X O) hB (fun h => b6 h.symm)⟩
    ·rw [List.getElem?_append_right U] at H K;have hj0 : j - k = 0 := by have := (List.getElem?_eq_some_iff.1 H).1; simp at this; omega
     rw [b5, hj0] at H;rw [d0, hj0] at K;simp only [List.getElem?_cons_zero, Option.some.injEq] at H K;subst H K;exact ⟨_, rfl, by omega, fun e => (a4 _ e.symm).elim (fun h => by have := I _ h; omega) (fun h => by omega), kb bU U (fun h => by have := I _ h; omega)⟩
 ·obtain rfl : k = m.length := by omega
  rw [List.take_length] at F;obtain ⟨va, vc, rfl, a5⟩ := own_ints oW;have e2 : a.length = m.length := F.1;obtain ⟨u0, d3⟩ := gl (l := a) (k := 0) U;obtain ⟨lb, lo, rfl, _⟩ := a5 0 _ d3;have hlb : P.heap.size ≤ lb := (Ab oW rfl).1
  have d2 : ∀ q, Keep [Q.heap.size] W q → ∀ (k : Nat) (x : Int), m[k]? = some x → ∃ g rc, q.cell? ⟨lb, lo + k, none⟩ = some (.slice (sm g) S.length rc) ∧ ∀ i, i < S.length → q.cell? ⟨g, 0 + i, none⟩ = some (iV (valS S x i)) := by
   intro q X k x p;obtain ⟨uk, b7⟩ := gl (l := a) (k := k) (by have := (List.getElem?_eq_some_iff.1 p).1; omega);obtain ⟨_, _, e1, ck⟩ := a5 k _ b7;cases e1;obtain ⟨g, rfl, z, _, r⟩ := F.2 k uk x b7 p;exact ⟨g, _, X.cell ck Dl, fun i hi => (r.E X Dl).cell (by simp [valsC, hi])⟩
  clear F oW a5 I;refine go ?_;refine AW (rd 0 6 (rd 7 3 (.alt 6 (rd 10 4 (.alt 14 .done .stop)) .stop))) Al Dk (fun wd N ed => ⟨fun V => V.cell? ⟨Q.heap.size, 0 + 2, none⟩ = some (iV (E.length : Int)) ∧ V.cell? ⟨w.heap.size, 0 + 1, none⟩ = some (.slice R d.length B), ?_, ?_⟩)
  ·exact ⟨(bW.E N O).cell rfl, (a9.E N O).cell rfl⟩
  have s2 : ∀ V : World, V.cell? ⟨Q.heap.size, 0 + 2, none⟩ = some (iV (E.length : Int)) ∧ V.cell? ⟨w.heap.size, 0 + 1, none⟩ = some (.slice R d.length B) → V.cell? ⟨Q.heap.size, 0 + 2, none⟩ = some (iV (E.length : Int)) := fun V e => e.1;have s1 : ∀ V : World, V.cell? ⟨Q.heap.size, 0 + 2, none⟩ = some (iV (E.length : Int)) ∧ V.cell? ⟨w.heap.size, 0 + 1, none⟩ = some (.slice R d.length B) → V.cell? ⟨w.heap.size, 0 + 1, none⟩ = some (.slice R d.length B) := fun V e => e.2;refine go ?_;refine D_E rfl ?_;refine AC (gnested_ok (dpF f) wd b o f (Nat.le_refl _) U (hf.E (T.trans N) (fun _ _ => by simp))) rfl ?_;rintro _ W1 ⟨rfl, k1⟩;have a8 := bW.E (N.trans k1) O;have b2 := a9.E (N.trans k1) O;refine wNl (⟨a8.cell rfl, b2.cell rfl⟩) ?_;have hmul : ((DB f : Int)) * ((d.length : Int)) = ((DB f * d.length : Nat) : Int) := (Int.natCast_mul _ _).symm;refine go ?_;have hB : (E.length : Int) + (DB f : Int) * (d.length : Int) = ((E.length + DB f * d.length : Nat) : Int) := by omega
  refine D_E rfl ?_;refine AN (v := iV ((E.length : Int) + (DB f : Int) * (d.length : Int))) rfl rfl rfl a8 O (fun W2 s => ?_);have Z : Blk W2 Q.heap.size 182 [.slice M S.length C, .slice (some ⟨lb, lo, none⟩) m.length vc, iV (E.length : Int), iV ((E.length : Int) + (DB f : Int) * (d.length : Int)), iV 0] := s.D;rw [hB] at Z;have a2 := b2.E s.E Dl;have d6 : Keep [Q.heap.size] W W2 := ((N.trans k1).any).trans s.E (fun x h _ => h);refine wNl (⟨Z.cell rfl, a2.cell rfl⟩) ?_;refine go ?_;clear s1 s2;refine AW (rd 0 11 (.alt 11 .done .stop)) Al Dk (fun wd N ed => ⟨fun V => V.cell? ⟨Q.heap.size, 0 + 3, none⟩ = some (iV ((E.length + DB f * d.length : Nat) : Int)) ∧ V.cell? ⟨w.heap.size, 0 + 1, none⟩ = some (.slice R d.length B), ?_, ?_⟩)
  ·exact ⟨(Z.E N O).cell rfl, (a2.E N O).cell rfl⟩
  have s2 : ∀ V : World, V.cell? ⟨Q.heap.size, 0 + 3, none⟩ = some (iV ((E.length + DB f * d.length : Nat) : Int)) ∧ V.cell? ⟨w.heap.size, 0 + 1, none⟩ = some (.slice R d.length B) → V.cell? ⟨Q.heap.size, 0 + 3, none⟩ = some (iV ((E.length + DB f * d.length : Nat) : Int)) := fun V e => e.1;have s1 : ∀ V : World, V.cell? ⟨Q.heap.size, 0 + 3, none⟩ = some (iV ((E.length + DB f * d.length : Nat) : Int)) ∧ V.cell? ⟨w.heap.size, 0 + 1, none⟩ = some (.slice R d.length B) → V.cell? ⟨w.heap.size, 0 + 1, none⟩ = some (.slice R d.length B) := fun V e => e.2;refine go ?_;refine D_E rfl ?_;have b3 := Z.E N O;have c7 : ((E.length + DB f * d.length : Nat) : Int) + (d.length : Int) = ((E.length + DB f * d.length + d.length : Nat) : Int) := (Int.natCast_add _ _).symm;refine AN (v := iV (((E.length + DB f * d.length : Nat) : Int) + (d.length : Int))) rfl rfl rfl b3 O (fun W3 A => ?_);have b4 : Blk W3 Q.heap.size 182 [.slice M S.length C, .slice (some ⟨lb, lo, none⟩) m.length vc, iV (E.length : Int), iV ((E.length + DB f * d.length : Nat) : Int), iV (((E.length + DB f * d.length : Nat) : Int) + (d.length : Int))] := A.D;rw [c7] at b4;have c6 := (a2.E N O).E A.E Dl;have c0 : Keep [Q.heap.size] W W3 := (d6.trans N (fun x h => by cases h)).trans A.E (fun x h _ => h);refine wNl (⟨b4.cell rfl, c6.cell rfl⟩) ?_;refine go ?_;have e4 : Ext w W3 := T.E c0 Dl;refine AA rfl ⟨_, rfl, e4, ?_⟩;rw [← a0];exact ⟨⟨b9, h1, by omega, by omega⟩, M, C, lb, lo, vc, b4, hS.ext e4, d2 _ c0⟩
def rowC (n : Nat) (p : Nat → Bool) : LV := (List.range n).map fun t => .bool (p t)
theorem DE (n : Nat) (p : Nat → Bool) : (rowC n p).length = n := by simp [rowC]
theorem rowC_at {n : Nat} {p : Nat → Bool} {t : Nat} (h : t < n) : (rowC n p)[t]? = some (.bool (p t)) := by simp [rowC, h]
theorem rowC_succ (n : Nat) (p : Nat → Bool) : rowC (n + 1) p = rowC n p ++ [.bool (p n)] := by simp [rowC, List.range_succ]
theorem rowC_congr {n : Nat} {p q : Nat → Bool} (h : ∀ t, t < n → p t = q t) : rowC n p = rowC n q := by
 unfold rowC;refine List.map_congr_left fun t S => ?_;rw [h t (List.mem_range.1 S)]
theorem rowC_set {n t : Nat} {p q : Nat → Bool} (h : t < n) (H : ∀ x, x < n → q x = if x = t then q t else p x) : (rowC n p).set t (.bool (q t)) = rowC n q := by
 refine List.ext_getElem? fun x => ?_;by_cases V : x < n
 ·rw [rowC_at V, H x V];by_cases F : x = t
  ·subst F;rw [List.getElem?_set_self (by rw [DE]; exact V), if_pos rfl]
  ·rw [List.getElem?_set_ne (fun e => F e.symm), rowC_at V, if_neg F]
 ·rw [List.getElem?_eq_none (by rw [List.length_set, DE]; omega), List.getElem?_eq_none (by rw [DE]; omega)]
def Tru (w : World) (v : Value) (n : Nat) (p : Nat → Bool) : Prop := ∃ g, v = .slice (sm g) n n ∧ Blk w g 4 (rowC n p)
theorem Tru.ext {w w' : World} {v : Value} {n : Nat} {p : Nat → Bool} (h : Tru w v n p) (k : Ext w w') : Tru w' v n p := by
 obtain ⟨g, e, h⟩ := h;exact ⟨g, e, h.E k O⟩
theorem Tru.cell {w : World} {v : Value} {n : Nat} {p : Nat → Bool} (h : Tru w v n p) : ∃ g, v = .slice (sm g) n n ∧ g < w.heap.size ∧ ∀ k, k < n → w.cell? ⟨g, 0 + k, none⟩ = some (.bool (p k)) := by
 obtain ⟨g, e, h⟩ := h;exact ⟨g, e, h.lt, fun k P => h.cell (by rw [Nat.zero_add]; exact rowC_at P)⟩
theorem Tru.congr {w : World} {v : Value} {n : Nat} {p q : Nat → Bool} (h : Tru w v n p) (e : ∀ t, t < n → p t = q t) : Tru w v n q := by
 obtain ⟨g, X, h⟩ := h;exact ⟨g, X, by rw [← rowC_congr e]; exact h⟩
theorem DC (w : World) (t : Nat) (S : List Sgn) (xs : List Int) (m p B : Nat) (F : FuncId) [hF : AD Zp F] (v1 v2 : LV) (q : Nat → Bool) (X : List Nat) (a : Nat → World → Prop) (h : AxG w t S xs m p B) (C : ∀ x ∈ X, x < w.heap.size) (s : a 0 w)
  (f : ∀ {k : Nat} {W c : World} {Y : List Nat}, a k W → Keep Y W c → (∀ y ∈ Y, w.heap.size ≤ y) → a k c)
  (j : ∀ (k : Nat) (W : World), k < B + p → Keep X w W → a k W → Fn Zp F (v1 ++ [iV (k : Int)] ++ v2) W fun u c => u = .bool (q k) ∧ Keep X W c ∧ a (k + 1) c) :
  Fn Zp 203 [pt t, .func (.func F) v1.toArray v2.toArray] w fun u w' => Tru w' u (B + p) q ∧ Keep X w w' ∧ a (B + p) w' ∧ ∀ g, u.ownBlock = some g → w.heap.size ≤ g := by
 obtain ⟨⟨H, I, Q, i⟩, sa, sc, M, lo, N, D, _, _⟩ := h;obtain ⟨n, G⟩ : ∃ n, n = B + p := ⟨_, rfl⟩;rw [← G] at D j i ⊢;refine AG Tryz.func203 rfl Tryz.ntmps203 (go ?_);refine W_make1 (n := n) rfl rfl rfl rfl rfl U U (fun w1 E => go ?_);refine Ah (α := Nat) (fun k => [(1, .func (.func F) v1.toArray v2.toArray), (5, .slice (sm w.heap.size) n n), (13, iV (n : Int)), (14, iV (k : Int))]) (fun k W => k ≤ n ∧ Keep X w W ∧ a k W ∧ Blk W w.heap.size 4 (rowC k q ++ List.replicate (n - k) (.bool false))) (fun k => n - k) 0 ag ⟨by omega, E.E.any, f s E.E O, E.D⟩ ?_;rintro k W Z ⟨P, T, r, A⟩;refine go ?_;by_cases o : k < n
 ·refine go ?_;refine Av (v1 := v1) (v2 := v2) (vs := [iV (k : Int)]) rfl (j k W o T r) rfl ?_;rintro _ w2 ⟨rfl, l, R⟩;have b := A.E l (fun h => by have := C _ h; omega);refine go ?_;refine AN (v := .bool (q k)) rfl rfl rfl b EA (fun w3 L => ?_);refine go ?_;have d := L.D;rw [Nat.zero_add, set_fill _ _ _ _ _ (DE k q) o, ← rowC_succ] at d;exact ⟨k + 1, ⟨rfl, ag, ⟨by omega, (T.trans l (fun x V _ => V)).trans L.E (fun x V h => by simp at V; omega), f R L.E (fun y K => by simp at K; omega), d⟩⟩, by omega⟩
 ·obtain rfl : k = n := by omega
  rw [Nat.sub_self, List.replicate_zero, List.append_nil] at A;refine go ?_;exact AA rfl ⟨⟨_, rfl, A⟩, T, r, fun g z => by have e := Option.some.inj z; simp only at e; omega⟩
def TrusG (w : World) (v : Value) (n : Nat) (ps : List (Nat → Bool)) : Prop := ∃ g a, v = .slice (sm g) ps.length ps.length ∧ Blk w g 140 a ∧ ∀ (k : Nat) (p : Nat → Bool), ps[k]? = some p → ∃ u, a[k]? = some u ∧ Tru w u n p
theorem TrusG.ext {w w' : World} {v : Value} {n : Nat} {ps : List (Nat → Bool)} (h : TrusG w v n ps) (k : Ext w w') : TrusG w' v n ps := by
 obtain ⟨g, a, e, X, W⟩ := h;refine ⟨g, a, e, X.E k O, fun j p y => ?_⟩;obtain ⟨u, d, x⟩ := W j p y;exact ⟨u, d, x.ext k⟩
theorem TrusG.at {w : World} {v : Value} {n : Nat} {ps : List (Nat → Bool)} (h : TrusG w v n ps) : ∃ g, v = .slice (sm g) ps.length ps.length ∧ ∀ (k : Nat) (p : Nat → Bool), ps[k]? = some p → ∃ u, w.cell? ⟨g, 0 + k, none⟩ = some (.slice (sm u) n n) ∧ ∀ i, i < n → w.cell? ⟨u, 0 + i, none⟩ = some (.bool (p i)) := by
 obtain ⟨g, a, e, X, W⟩ := h;refine ⟨g, e, fun k p P => ?_⟩;obtain ⟨u, d, x⟩ := W k p P;obtain ⟨b, rfl, _, T⟩ := x.cell;exact ⟨b, X.cell (by rw [Nat.zero_add]; exact d), T⟩
theorem gall_ok (w : World) (v : Value) (n : Nat) (ps : List (Nat → Bool)) (i : Nat) (c : Bool) (F : i < n) (d : n ≤ 1000000) (f : ps.length ≤ 1000000) (h : TrusG w v n ps) : Fn Zp 214 [v, iV (i : Int), .bool c] w fun u w' => u = .bool (ps.all fun p => p i == c) ∧ w' = w := by
 obtain ⟨g, rfl, T⟩ := h.at;refine AG Tryz.func214 rfl Tryz.ntmps214 (go ?_);refine Ah (α := Nat) (fun k => [(1, iV (i : Int)), (2, .bool c), (9, .slice (sm g) ps.length ps.length), (10, iV (ps.length : Int)), (11, iV (k : Int))]) (fun k W => k ≤ ps.length ∧ W = w ∧ ∀ p ∈ ps.take k, (p i == c) = true) (fun k => ps.length - k) 0 ag ⟨by omega, rfl, by simp⟩ ?_;rintro k W b ⟨P, rfl, V⟩;refine go ?_;by_cases y : k < ps.length
 ·obtain ⟨p, a⟩ := gl y;obtain ⟨u, G, E⟩ := T k p a;have Z := E i F;refine go ?_;cases hv : p i == c with
  | true =>
   have e : (p i != c) = false := by rw [bne, hv]; rfl
   rw [e];refine go ?_;refine ⟨k + 1, ⟨rfl, ag, ⟨by omega, rfl, fun q H => ?_⟩⟩, by omega⟩;rw [List.take_add_one, a] at H;rcases List.mem_append.1 H with H | H
   ·exact V q H
   ·simp at H; subst H; exact hv
  | false =>
   have e : (p i != c) = true := by rw [bne, hv]; rfl
   rw [e];refine go ?_;refine AA rfl ⟨congrArg Value.bool (Eq.symm ?_), rfl⟩;rw [← Bool.not_eq_true, List.all_eq_true];exact fun h => by rw [h p (List.mem_of_getElem? a)] at hv; cases hv
 ·obtain rfl : k = ps.length := by omega
  rw [List.take_length] at V;refine go ?_;exact AA rfl ⟨congrArg Value.bool (List.all_eq_true.2 V).symm, rfl⟩
end Go.Proofs.YtohodbnnhlddpaaGreatDoor
