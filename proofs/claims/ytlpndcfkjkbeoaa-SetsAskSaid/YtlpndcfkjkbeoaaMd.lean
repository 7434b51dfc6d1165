/- Part of a claim: own texts Lc, Wa, Wb, Wc, Wd, We, Wf, Wg, Wh, Xa, Xb, Xc, Xd, Xe, Xf, Xg, Xh, Sa, Sb, Sc, Sd, Se, Sf, Sg, Sh, Si, Sj, Fr, merged by a program of this claim. -/
import Derived.WalkKit
import Derived.ProofKit
import Derived.OpenShut
import Derived.ChangeOld
import Derived.Below
import Derived.Deep.Slices
import Derived.Test.YtlpndcfkjkbeoaaMc
namespace Go.Proofs.Ytlpndcfkjkbeoaa
open Go Go.Pan

theorem entS_nil (h : Array Obj) (b : Nat) : EntS h (.slice (some ⟨b, 0, none⟩) 0 0) [] := ⟨b, 0, 0, [], rfl, Nat.le_refl _, fun j v hj => by simp at hj, Ents.nil h⟩

theorem grown_spec {k : Nat} (h1 : 1 ≤ k) (h16 : k ≤ 16) {v : Value} {l : List Act} {w : World} (s : ActL w.heap v l) (hn : l.length ≤ 49000) :
    CallK Try.prog F_law07_Grown [I k, v] (fun r w' => Ext w w' ∧ ∃ r1 r2 m, r = .tuple #[r1, r2, .bool true] ∧ Both w' k r1 r2 m l.length) w := by
  obtain ⟨a, cap, rfl⟩ := s.form
  refine e_law07_Grown rfl ?_
  refine cl (tree_new_spec h1 h16 w) ?_
  rintro _ w1 ⟨hx1, b, rfl, hb, tr⟩
  refine tsT rfl ?_
  refine ⟨rfl, rfl, by decide, al ?_⟩
  intro nb w2 hnb hx2 hsz2 hblk2
  refine lp (fun s : Nat × Value × Value × List Ent => [(1, .slice a l.length cap), (7, s.2.1), (9, s.2.2.1), (10, I s.1)]) (fun s w' => Ext w w' ∧ s.1 ≤ l.length ∧ Both w' k s.2.1 s.2.2.1 s.2.2.2 s.1) (fun s => l.length - s.1)
    (0, ptr b, .slice (some ⟨nb, 0, none⟩) 0 0, []) ⟨rfl, rfl, rfl, rfl, trivial⟩ ⟨hx1.trans hx2, Nat.zero_le _, ⟨⟨b, rfl, tr.ext hx2.1⟩, entS_nil _ nb, Nat.le_refl _⟩⟩ ?_
  rintro ⟨j, r1, r2, m⟩ e w3 ⟨hx3, hj, hb3⟩
  simp only at hj hb3
  rcases Nat.lt_or_ge j l.length with h | h
  · obtain ⟨b, o, cs, rfl, hc, -, pv, rfl, hp, hv⟩ := s.place h
    refine tsT (by omega) ?_
    refine ix rfl h ?_
    refine ldC (hx3.1.cels hc) rfl ?_
    refine cl (done_spec hb3 (by omega) (hp.ext hx3.1) hv) ?_
    rintro _ w4 ⟨hx4, s1, s2, m', rfl, hb4⟩
    refine nm (inc64 (by omega)) ?_
    exact ⟨(j + 1, s1, s2, m'), ⟨⟨rfl, rfl, rfl, rfl, trivial⟩, hx3.trans hx4, h, hb4⟩, by simp only; omega⟩
  · have hj' : j = l.length := by omega
    subst hj'
    refine tsF (by omega) ?_
    exact ⟨hx3, _, _, m, rfl, hb3⟩

theorem grown_row {k : Nat} (h1 : 1 ≤ k) (h16 : k ≤ 16) {v : Value} {l : List Act} {w : World} (s : ActL w.heap v l) (hn : l.length ≤ 49000) :
    CallK Try.prog F_law07_Grown [I k, v] (fun r w' => Ext w w' ∧ ∃ tb eb eo ecap m, r = .tuple #[ptr tb, .slice (some ⟨eb, eo, none⟩) m.length ecap, .bool true] ∧ TreeRep w'.heap tb k m ∧ EntS w'.heap (.slice (some ⟨eb, eo, none⟩) m.length ecap) m ∧ m.length ≤ l.length) w := by
  refine (grown_spec h1 h16 s hn).mono fun r w' ⟨hx, r1, r2, m, e, ⟨⟨b, e1, tr⟩, hen, hle⟩⟩ => ?_
  subst e1 e
  obtain ⟨eb, eo, cap, R, e2, h3⟩ := hen.ex
  subst e2
  exact ⟨hx, b, eb, eo, cap, m, rfl, tr, hen, hle⟩

end Go.Proofs.Ytlpndcfkjkbeoaa

namespace Go.Proofs.Ytlpndcfkjkbeoaa
open Go Go.Pan

/-! ### walk: First -/

/-- the least of the entries that are P, if there is one -/
def Least (P : Ent → Prop) (l : List Ent) : Option Ent → Prop
  | none => ∀ e ∈ l, ¬ P e
  | some e => e ∈ l ∧ P e ∧ ∀ f ∈ l, P f → Z e.1 ≤ Z f.1

/-- an answer that is an entry, or none: a fresh one -/
def EntO (w0 w : World) (r : Value) : Option Ent → Prop
  | none => r = .tuple #[nilE, .bool false]
  | some e => ∃ pv, r = .tuple #[.agg #[pv, U e.2], .bool true] ∧ Fresh w0 w pv e.1

theorem Fresh.old {w0 w1 w : World} {v : Value} {p : List Nat} (f : Fresh w1 w v p) (x : w0.heap.size ≤ w1.heap.size) : Fresh w0 w v p := by
  obtain ⟨b, cap, rest, h1, h2, h3⟩ := f.own
  exact ⟨f.sl, b, cap, rest, h1, by omega, h3⟩
theorem Fresh.ext {w0 w w' : World} {v : Value} {p : List Nat} (f : Fresh w0 w v p) (x : Ext w w') : Fresh w0 w' v p := by
  obtain ⟨b, cap, rest, h1, h2, h3⟩ := f.own
  exact ⟨f.sl.ext x.1, b, cap, rest, h1, h2, x.blk h3⟩
theorem Fresh.upd {w0 w w' : World} {v : Value} {p : List Nat} {b : Nat} {o : Obj} (f : Fresh w0 w v p) (hb : b < w0.heap.size) (u : Upd w w' b o) : Fresh w0 w' v p := by
  obtain ⟨c, cap, rest, h1, h2, h3⟩ := f.own
  have h4 := u.old (show c ≠ b by omega) h3
  refine ⟨?_, c, cap, rest, h1, h2, h4⟩
  rw [h1]
  exact Sl.ofBlk h4 f.sl.small
theorem EntO.old {w0 w1 w : World} {r : Value} {o : Option Ent} (f : EntO w1 w r o) (x : w0.heap.size ≤ w1.heap.size) : EntO w0 w r o := by
  cases o with
  | none => exact f
  | some e => obtain ⟨pv, h1, h2⟩ := f; exact ⟨pv, h1, h2.old x⟩
theorem EntO.upd {w0 w w' : World} {r : Value} {o : Option Ent} {b : Nat} {ob : Obj} (f : EntO w0 w r o) (hb : b < w0.heap.size) (u : Upd w w' b ob) : EntO w0 w' r o := by
  cases o with
  | none => exact f
  | some e => obtain ⟨pv, h1, h2⟩ := f; exact ⟨pv, h1, h2.upd hb u⟩
/-- as a value of two cells -/
theorem EntO.form {w0 w : World} {r : Value} {o : Option Ent} (f : EntO w0 w r o) : ∃ a n cap x, r = .tuple #[.agg #[.slice a n cap, U x], .bool o.isSome] := by
  cases o with
  | none => exact ⟨none, 0, 0, 0, f⟩
  | some e =>
    obtain ⟨pv, h1, h2⟩ := f
    obtain ⟨a, cap, rfl⟩ := h2.sl.form
    exact ⟨a, e.1.length, cap, e.2, h1⟩

theorem NodeRep.digs {h : Array Obj} {k b L : Nat} {l : List Ent} (r : NodeRep h k b (L + 1) l) {e f : Ent} (he : e ∈ l) (hf : f ∈ l) :
    (Z e.1 ≤ Z f.1 → dig L e.1 ≤ dig L f.1) ∧ (dig L e.1 < dig L f.1 → Z e.1 < Z f.1) := by
  obtain ⟨pre, pv, sb, m, -, -, -, -, -, hL, -, hall, -⟩ := r.kids
  have oe := r.ok e he
  have of := r.ok f hf
  have hs := (hall e he).1.trans (hall f hf).1.symm
  exact ⟨dig_le_of_Z (by omega) hL oe.2.1 of.2.1 hs, Z_lt_of_dig (by omega) hL oe.2.1 of.2.1 hs⟩
theorem NodeRep.lvl {h : Array Obj} {k b L : Nat} {l : List Ent} (r : NodeRep h k b (L + 1) l) : L < 64 := by
  obtain ⟨pre, pv, sb, m, -, -, -, -, -, hL, -⟩ := r.kids
  exact hL

theorem first_nil_spec (w : World) : CallK Try.prog F_walk_First [nilp] (fun r w' => Ext w w' ∧ r = .tuple #[nilE, .bool false]) w := by
  refine e_walk_First rfl ?_
  refine al ?_
  intro nb w1 hnb hx1 hsz1 hblk1
  have hb1 : w1.heap[nb]? = some (.cells #[.slice none 0 0, U 0] T_api_Entry (0, 0)) := hblk1
  refine jl0 (sc := sc0) tt_ok hmix 0 rfl (by kernel_rfl) (by kernel_rfl) (fun _ _ _ h => h)
    (fun _ : Unit => [(0, nilp), (2, ptr nb), (3, .bool false)]) (fun _ w' => Ext w1 w') (fun _ => 0) () ⟨rfl, rfl, rfl, trivial⟩ (Ext.refl _) ?_
  rintro _ e w2 hx2
  refine cl (nil_entry_spec w2) ?_
  rintro _ w3 ⟨hx3, rfl⟩
  refine al ?_
  intro nc w4 hnc hx4 hsz4 hblk4
  refine st hblk4 rfl rfl rfl ?_
  intro w5 u5
  have hx15 : Ext w1 w5 := ((hx2.trans hx3).trans hx4).upd (by have := (hx2.trans hx3).1.1; omega) u5
  have h5 : w5.heap[nc]? = some (.cells #[.slice none 0 0, U 0] T_api_Entry (0, 0)) := u5.new
  refine ldC (cs := [.slice none 0 0, U 0]) (celsAt_blk (o := 0) h5 rfl) rfl ?_
  refine st (hx15.blk hb1) rfl rfl rfl ?_
  intro w6 u6
  have h6 : w6.heap[nb]? = some (.cells #[.slice none 0 0, U 0] T_api_Entry (0, 0)) := u6.new
  refine ldC (cs := [.slice none 0 0, U 0]) (celsAt_blk (o := 0) h6 rfl) rfl ?_
  exact ⟨(hx1.trans hx15).upd (show w.heap.size ≤ nb by omega) u6, rfl⟩

end Go.Proofs.Ytlpndcfkjkbeoaa

namespace Go.Proofs.Ytlpndcfkjkbeoaa
open Go Go.Pan

theorem first_spec {k b n : Nat} {l : List Ent} {w : World} {h0 : Array Obj} (r : NodeRep h0 k b n l) (x0 : HExt h0 w.heap) :
    CallK Try.prog F_walk_First [ptr b] (fun r w' => Ext w w' ∧ ∃ e, EntO w w' r (some e) ∧ Least (fun _ => True) l (some e)) w := by
  refine e_walk_First rfl ?_
  refine al ?_
  intro nb w1 hnb hx1 hsz1 hblk1
  have hb1 : w1.heap[nb]? = some (.cells #[.slice none 0 0, U 0] T_api_Entry (0, 0)) := hblk1
  refine jl0 (sc := sc0) tt_ok hmix 0 rfl (by kernel_rfl) (by kernel_rfl) (fun _ _ _ h => h)
    (fun s : Nat × Nat × List Ent => [(0, ptr s.1), (2, ptr nb), (3, .bool false)]) (fun s w' => Ext w1 w' ∧ NodeRep h0 k s.1 s.2.1 s.2.2 ∧ ∀ e, Least (fun _ => True) s.2.2 (some e) → Least (fun _ => True) l (some e)) (fun s => s.2.1)
    (b, n, l) ⟨rfl, rfl, rfl, trivial⟩ ⟨Ext.refl _, r, fun _ h => h⟩ ?_
  rintro ⟨b, n, m⟩ e w2 ⟨hx2, r, hm⟩
  simp only at r hm
  have x2 : HExt h0 w2.heap := x0.trans (hx1.trans hx2).1
  refine cl (node_entry_spec (r.ext x2)) ?_
  rintro re w3 ⟨hx3, hent⟩
  have hsz3 : w1.heap.size ≤ w3.heap.size := (hx2.trans hx3).1.1
  rcases hent with ⟨hn, rfl⟩ | ⟨rfl, p, v, pv, rfl, rfl, hfr⟩
  · refine al ?_
    intro nc w4 hnc hx4 hsz4 hblk4
    refine st hblk4 rfl rfl rfl ?_
    intro w5 u5
    have hx15 : Ext w1 w5 := ((hx2.trans hx3).trans hx4).upd (by omega) u5
    obtain ⟨L, rfl⟩ : ∃ L, n = L + 1 := ⟨n - 1, by omega⟩
    have x5 : HExt h0 w5.heap := x0.trans (hx1.trans hx15).1
    refine cl (node_from_spec r x5 0) ?_
    rintro rf w6 ⟨hx6, ⟨-, hnone⟩ | ⟨a, p, n', rfl, ha0, hak, hn', rp, hleast⟩⟩
    · obtain ⟨e0, he0⟩ := List.exists_mem_of_ne_nil _ r.ne
      have := hnone e0 he0
      omega
    · refine ⟨rfl, (p, n', atA L a m), ⟨⟨rfl, rfl, rfl, trivial⟩, hx15.trans hx6, rp, fun e he => hm e ?_⟩, by simp only; omega⟩
      obtain ⟨h1, -, h2⟩ := he
      have hem := mem_atA.1 h1
      refine ⟨hem.1, trivial, fun f hf _ => ?_⟩
      rcases Nat.lt_trichotomy (dig L f.1) a with g | g | g
      · have := hleast f hf g; omega
      · exact h2 f (mem_atA.2 ⟨hf, g⟩) trivial
      · exact Nat.le_of_lt ((r.digs hem.1 hf).2 (by rw [hem.2]; exact g))
  · obtain ⟨cb, cap, rest, rfl, hcb, hcblk⟩ := hfr.own
    refine al ?_
    intro nc w4 hnc hx4 hsz4 hblk4
    refine st hblk4 rfl rfl rfl ?_
    intro w5 u5
    have hx15 : Ext w1 w5 := ((hx2.trans hx3).trans hx4).upd (by omega) u5
    have h5 : w5.heap[nc]? = some (.cells #[.slice (some ⟨cb, 0, none⟩) p.length cap, U v] T_api_Entry (0, 0)) := u5.new
    have hcl := lt_of_blk hcblk
    have hc5 := u5.old (show cb ≠ nc by omega) (hx4.blk hcblk)
    refine ldC (cs := [.slice (some ⟨cb, 0, none⟩) p.length cap, U v]) (celsAt_blk (o := 0) h5 rfl) rfl ?_
    refine st (hx15.blk hb1) rfl rfl rfl ?_
    intro w6 u6
    have h6 : w6.heap[nb]? = some (.cells #[.slice (some ⟨cb, 0, none⟩) p.length cap, U v] T_api_Entry (0, 0)) := u6.new
    refine ldC (cs := [.slice (some ⟨cb, 0, none⟩) p.length cap, U v]) (celsAt_blk (o := 0) h6 rfl) rfl ?_
    have hnb1 : nb < w1.heap.size := by omega
    have hw2 : w1.heap.size ≤ w2.heap.size := hx2.1.1
    have hc6 := u6.old (show cb ≠ nb by omega) hc5
    refine ⟨(hx1.trans hx15).upd (show w.heap.size ≤ nb by omega) u6, (p, v), ⟨_, rfl, Sl.ofBlk hc6 hfr.sl.small, cb, cap, rest, rfl, by have := hx1.1.1; omega, hc6⟩, hm _ ⟨.head _, trivial, fun f hf _ => by rw [List.mem_singleton.1 hf]; exact Nat.le_refl _⟩⟩

end Go.Proofs.Ytlpndcfkjkbeoaa

namespace Go.Proofs.Ytlpndcfkjkbeoaa
open Go Go.Pan

/-! ### walk: side, From -/

theorem apart_nat {za zb zq K : Nat} (h1 : za / K = zb / K) (h2 : ¬ za / K = zq / K) : (za < zq ↔ zb < zq) ∧ za ≠ zq ∧ zb ≠ zq := by
  have key : ∀ x y : Nat, x / K = y / K → x / K ≠ zq / K → x < zq → y < zq := fun x y e g hlt => by
    have hle := Nat.div_le_div_right (c := K) (Nat.le_of_lt hlt)
    have hlt2 : y / K < zq / K := by rw [← e]; exact Nat.lt_of_le_of_ne hle g
    refine Nat.lt_of_not_ge fun hge => ?_
    have := Nat.div_le_div_right (c := K) hge
    exact absurd hlt2 (Nat.not_lt.2 this)
  exact ⟨⟨key _ _ h1 h2, key _ _ h1.symm (h1 ▸ h2)⟩, fun e => h2 (by rw [e]), fun e => h2 (by rw [h1, e])⟩

theorem Z_apart {a b q : List Nat} {n : Nat} (hab : a.length = b.length) (haq : a.length = q.length) (hn : n ≤ 64) (ha : small 64 a) (hb : small 64 b) (hq : small 64 q) (h : shr n a = shr n b) (hne : shr n a ≠ shr n q) :
    (Z a < Z q ↔ Z b < Z q) ∧ Z a ≠ Z q ∧ Z b ≠ Z q := by
  have h1 := (Z_above hab hn ha hb).2 h
  have h2 : ¬ Z a / (2 ^ a.length) ^ n = Z q / (2 ^ a.length) ^ n := fun e => hne ((Z_above haq hn ha hq).1 e)
  exact apart_nat h1 h2

/-- on which side of a point all of a list lies -/
def SideOf (n : Nat) (l : List Ent) (q : List Nat) (c : Int) : Prop :=
  (c = 0 ∧ ∀ e ∈ l, shr n e.1 = shr n q) ∨ (c = 1 ∧ (∀ e ∈ l, Z q < Z e.1)) ∨ (c = -1 ∧ ∀ e ∈ l, Z e.1 < Z q)

theorem cmp_side {n k : Nat} {l : List Ent} {pre q : List Nat} (hpk : pre.length = k) (hps : small 64 pre) (hq : q.length = k) (hqs : small 64 q) (hok : ∀ e ∈ l, e.1.length = k ∧ small 64 e.1 ∧ e.2 < 2 ^ 64) (hne : l ≠ []) (hn : n ≤ 64)
    (hpre : ∀ e ∈ l, shr n e.1 = shr n pre) (hc : ¬ (q.length = k ∧ ∀ e ∈ l, shr n e.1 = shr n q)) : (cmpZ pre q = 1 ∧ (∀ e ∈ l, Z q < Z e.1)) ∨ (cmpZ pre q = -1 ∧ ∀ e ∈ l, Z e.1 < Z q) := by
  have hnq : shr n pre ≠ shr n q := fun h => hc ⟨hq, fun e he => (hpre e he).trans h⟩
  unfold cmpZ
  have ap := fun e (he : e ∈ l) => Z_apart (a := pre) (b := e.1) (q := q) (n := n) (by rw [hpk, (hok e he).1]) (by omega) hn hps (hok e he).2.1 hqs (hpre e he).symm hnq
  obtain ⟨e0, he0⟩ := List.exists_mem_of_ne_nil _ hne
  have a0 := ap e0 he0
  by_cases hlt : Z pre < Z q
  · rw [if_pos hlt]
    exact .inr ⟨rfl, fun e he => (ap e he).1.1 hlt⟩
  · rw [if_neg hlt, if_pos (by omega)]
    refine .inl ⟨rfl, fun e he => ?_⟩
    have := ap e he
    have h3 : ¬ Z e.1 < Z q := fun g => hlt (this.1.2 g)
    omega

theorem side_spec {k b n : Nat} {l : List Ent} {w : World} {u : Value} {q : List Nat} (r : NodeRep w.heap k b n l) (t : Sl w.heap u q) (hq : q.length = k) :
    CallK Try.prog F_walk_side [ptr b, u] (fun r w' => Ext w w' ∧ ∃ c : Int, r = I c ∧ SideOf n l q c) w := by
  have hk1 := r.k1
  refine e_walk_side rfl ?_
  refine cl (node_covers_spec r t) ?_
  rintro _ _ ⟨rfl, rfl⟩
  by_cases hc : q.length = k ∧ ∀ e ∈ l, shr n e.1 = shr n q
  · rw [decide_eq_true hc]
    exact ⟨Ext.refl _, 0, rfl, .inl ⟨rfl, hc.2⟩⟩
  · rw [decide_eq_false hc]
    refine cl (node_prefix_spec r) ?_
    rintro pv w1 ⟨hx1, pre, hfr, hpk, hpre, -⟩
    refine cl (cmp_spec hfr.sl (t.ext hx1.1)) ?_
    rintro _ _ ⟨rfl, rfl⟩
    obtain ⟨_, _, _, _, _, _, _, _, _, _, _, hn⟩ := r.head.ex
    rw [show cmpV pre q = .tuple #[I (cmpZ pre q), I 0] from if_pos ⟨by omega, by omega, by omega⟩]
    refine ⟨hx1, cmpZ pre q, rfl, ?_⟩
    exact .inr (cmp_side hpk hfr.sl.small hq t.small r.ok r.ne hn hpre hc)

/-- an answer as a value of two cells, and a bool -/
structure EntF (w0 w : World) (a : Option Addr) (n cap x : Nat) (o : Option Ent) : Prop where
  ent : EntO w0 w (.tuple #[.agg #[.slice a n cap, U x], .bool o.isSome]) o

theorem ptrO_first {k n : Nat} {o : Option Nat} {l : List Ent} {w : World} {h0 : Array Obj} (r : NodeO h0 k o n l) (x0 : HExt h0 w.heap) :
    CallK Try.prog F_walk_First [ptrO o] (fun r w' => Ext w w' ∧ ∃ o a n cap x, r = .tuple #[.agg #[.slice a n cap, U x], .bool o.isSome] ∧ EntF w w' a n cap x o ∧ Least (fun _ => True) l o) w := by
  suffices key : CallK Try.prog F_walk_First [ptrO o] (fun r w' => Ext w w' ∧ ∃ e, EntO w w' r e ∧ Least (fun _ => True) l e) w by
    refine key.mono fun r w' ⟨h1, e, h2, h3⟩ => ?_
    obtain ⟨a, n, cap, x, rfl⟩ := h2.form
    exact ⟨h1, e, a, n, cap, x, rfl, ⟨h2⟩, h3⟩
  cases o with
  | none =>
    have : l = [] := r
    subst this
    exact (first_nil_spec w).mono fun _ _ ⟨h1, h2⟩ => ⟨h1, none, h2, by intro e he; cases he⟩
  | some b => exact (first_spec (show NodeRep h0 k b n l from r) x0).mono fun _ _ ⟨h1, e, h2, h3⟩ => ⟨h1, some e, h2, h3⟩

end Go.Proofs.Ytlpndcfkjkbeoaa

namespace Go.Proofs.Ytlpndcfkjkbeoaa
open Go Go.Pan

/-- where a search for the first entry that isn't ahead of a point stands: below a node (m), or else at what comes later -/
structure Near (q : List Nat) (l m lat : List Ent) : Prop where
  here : ∀ e, Least (fun e => Z q ≤ Z e.1) m (some e) → Least (fun e => Z q ≤ Z e.1) l (some e)
  later : (∀ e ∈ m, ¬ Z q ≤ Z e.1) → ∀ o, Least (fun _ => True) lat o → Least (fun e => Z q ≤ Z e.1) l o

theorem Near.first {q : List Nat} {l m lat : List Ent} (nr : Near q l m lat) (hgt : ∀ e ∈ m, Z q < Z e.1) (hne : m ≠ []) {o : Option Ent} (h : Least (fun _ => True) m o) : Least (fun e => Z q ≤ Z e.1) l o := by
  cases o with
  | none =>
    obtain ⟨e0, he0⟩ := List.exists_mem_of_ne_nil _ hne
    exact absurd trivial (h e0 he0)
  | some e => exact nr.here e ⟨h.1, Nat.le_of_lt (hgt e h.1), fun f hf _ => h.2.2 f hf trivial⟩

theorem NodeRep.digq {h : Array Obj} {k b L : Nat} {l : List Ent} (r : NodeRep h k b (L + 1) l) {q : List Nat} (hq : q.length = k) (hqs : small 64 q) (hc : ∀ e ∈ l, shr (L + 1) e.1 = shr (L + 1) q) {e : Ent} (he : e ∈ l) :
    (Z q ≤ Z e.1 → dig L q ≤ dig L e.1) ∧ (dig L q < dig L e.1 → Z q < Z e.1) ∧ (dig L e.1 < dig L q → Z e.1 < Z q) ∧ (Z e.1 ≤ Z q → dig L e.1 ≤ dig L q) := by
  have oe := r.ok e he
  have hL := r.lvl
  exact ⟨dig_le_of_Z (by omega) hL hqs oe.2.1 (hc e he).symm, Z_lt_of_dig (by omega) hL hqs oe.2.1 (hc e he).symm, Z_lt_of_dig (by omega) hL oe.2.1 hqs (hc e he), dig_le_of_Z (by omega) hL oe.2.1 hqs (hc e he)⟩

theorem Near.down {h : Array Obj} {k b L : Nat} {q : List Nat} {l m lat : List Ent} (nr : Near q l m lat) (r : NodeRep h k b (L + 1) m) (hq : q.length = k) (hqs : small 64 q) (hc : ∀ e ∈ m, shr (L + 1) e.1 = shr (L + 1) q) :
    (∀ a n' p, (dig L q + 1 : Int) ≤ (a : Nat) → NodeRep h k p n' (atA L a m) → (∀ e ∈ m, dig L e.1 < a → (dig L e.1 : Int) < dig L q + 1) → Near q l (atA L (dig L q) m) (atA L a m)) ∧
    ((∀ e ∈ m, (dig L e.1 : Int) < dig L q + 1) → Near q l (atA L (dig L q) m) lat) := by
  have h1 : ∀ e, Least (fun e => Z q ≤ Z e.1) (atA L (dig L q) m) (some e) → Least (fun e => Z q ≤ Z e.1) l (some e) := fun e ⟨he, hz, hall⟩ => by
    have hem := mem_atA.1 he
    refine nr.here e ⟨hem.1, hz, fun f hf hzf => ?_⟩
    have hd := (r.digq hq hqs hc hf).1 hzf
    rcases Nat.eq_or_lt_of_le hd with g | g
    · exact hall f (mem_atA.2 ⟨hf, g.symm⟩) hzf
    · exact Nat.le_of_lt ((r.digs hem.1 hf).2 (by rw [hem.2]; exact g))
  constructor
  · intro a n' p ha rp hl
    refine ⟨h1, fun hno o ho => ?_⟩
    cases o with
    | none =>
      obtain ⟨e0, he0⟩ := List.exists_mem_of_ne_nil _ rp.ne
      exact absurd trivial (ho e0 he0)
    | some e =>
      obtain ⟨he, -, hall⟩ := ho
      have hem := mem_atA.1 he
      refine nr.here e ⟨hem.1, Nat.le_of_lt ((r.digq hq hqs hc hem.1).2.1 (by omega)), fun f hf hzf => ?_⟩
      have hd := (r.digq hq hqs hc hf).1 hzf
      rcases Nat.eq_or_lt_of_le hd with g | g
      · exact absurd hzf (hno f (mem_atA.2 ⟨hf, g.symm⟩))
      · rcases Nat.lt_trichotomy (dig L f.1) a with g2 | g2 | g2
        · have := hl f hf g2; omega
        · exact hall f (mem_atA.2 ⟨hf, g2⟩) trivial
        · exact Nat.le_of_lt ((r.digs hem.1 hf).2 (by rw [hem.2]; exact g2))
  · intro hl
    refine ⟨h1, fun hno o ho => nr.later (fun e he hz => ?_) o ho⟩
    have hd := (r.digq hq hqs hc he).1 hz
    have := hl e he
    exact hno e (mem_atA.2 ⟨he, by omega⟩) hz

theorem walk_from_dim {k b n : Nat} {l : List Ent} {w : World} {u : Value} {q : List Nat} (r : NodeRep w.heap k b n l) (t : Sl w.heap u q) (hq : q.length ≠ k) :
    CallK Try.prog F_walk_From [ptr b, u] (fun r w' => Ext w w' ∧ r = .tuple #[nilE, .bool false]) w := by
  obtain ⟨ua, ucap, rfl⟩ := t.form
  refine e_walk_From rfl ?_
  refine al ?_
  intro nb w1 hnb hx1 hsz1 hblk1
  have hb1 : w1.heap[nb]? = some (.cells #[.slice none 0 0, U 0] T_api_Entry (0, 0)) := hblk1
  refine jl2 (sc := sc0) tt_ok hmix 0 rfl (by kernel_rfl) (by kernel_rfl) (by kernel_rfl) (by kernel_rfl) (fun _ _ _ h => h)
    (fun _ : Unit => []) (fun _ _ => False) (fun _ => 0) ?_ (fun _ _ _ h => h.elim)
  refine cl (node_k_spec (r.ext hx1.1)) ?_
  rintro _ _ ⟨rfl, rfl⟩
  refine tsF (by omega) ?_
  refine st hb1 rfl rfl rfl ?_
  intro w2 u2
  have h2 : w2.heap[nb]? = some (.cells #[.slice none 0 0, U 0] T_api_Entry (0, 0)) := u2.new
  refine ldC (cs := [.slice none 0 0, U 0]) (celsAt_blk (o := 0) h2 rfl) rfl ?_
  exact ⟨hx1.upd (show w.heap.size ≤ nb by omega) u2, rfl⟩

theorem walk_from_nil (u : Value) (w : World) : CallK Try.prog F_walk_From [nilp, u] (fun r w' => Ext w w' ∧ r = .tuple #[nilE, .bool false]) w := by
  refine e_walk_From rfl ?_
  refine al ?_
  intro nb w1 hnb hx1 hsz1 hblk1
  have hb1 : w1.heap[nb]? = some (.cells #[.slice none 0 0, U 0] T_api_Entry (0, 0)) := hblk1
  refine jl2 (sc := sc0) tt_ok hmix 0 rfl (by kernel_rfl) (by kernel_rfl) (by kernel_rfl) (by kernel_rfl) (fun _ _ _ h => h)
    (fun _ : Unit => []) (fun _ _ => False) (fun _ => 0) ?_ (fun _ _ _ h => h.elim)
  refine st hb1 rfl rfl rfl ?_
  intro w2 u2
  have h2 : w2.heap[nb]? = some (.cells #[.slice none 0 0, U 0] T_api_Entry (0, 0)) := u2.new
  refine ldC (cs := [.slice none 0 0, U 0]) (celsAt_blk (o := 0) h2 rfl) rfl ?_
  exact ⟨hx1.upd (show w.heap.size ≤ nb by omega) u2, rfl⟩

set_option maxHeartbeats 1000000 in
theorem walk_from_spec {k b n : Nat} {l : List Ent} {w : World} {u : Value} {q : List Nat} {h0 : Array Obj} (r : NodeRep h0 k b n l) (x0 : HExt h0 w.heap) (t : Sl w.heap u q) (hq : q.length = k) :
    CallK Try.prog F_walk_From [ptr b, u] (fun r w' => Ext w w' ∧ ∃ o, EntO w w' r o ∧ Least (fun e => Z q ≤ Z e.1) l o) w := by
  obtain ⟨ua, ucap, rfl⟩ := t.form
  have hqs := t.small
  have hk1 := r.k1
  refine e_walk_From rfl ?_
  refine al ?_
  intro nb w1 hnb hx1 hsz1 hblk1
  have hb1 : w1.heap[nb]? = some (.cells #[.slice none 0 0, U 0] T_api_Entry (0, 0)) := hblk1
  have hnb1 : nb < w1.heap.size := by omega
  refine jl2 (sc := sc0) tt_ok hmix 0 rfl (by kernel_rfl) (by kernel_rfl) (by kernel_rfl) (by kernel_rfl) (fun _ _ _ h => h)
    (fun s : Nat × Nat × List Ent × Option Nat × Nat × List Ent => [(0, ptr s.1), (1, .slice ua q.length ucap), (4, ptr nb), (5, .bool false), (6, ptrO s.2.2.2.1)])
    (fun s w' => Ext w1 w' ∧ NodeRep h0 k s.1 s.2.1 s.2.2.1 ∧ NodeO h0 k s.2.2.2.1 s.2.2.2.2.1 s.2.2.2.2.2 ∧ Near q l s.2.2.1 s.2.2.2.2.2) (fun s => s.2.1) ?_ ?_
  · refine cl (node_k_spec (r.ext (x0.trans hx1.1))) ?_
    rintro _ _ ⟨rfl, rfl⟩
    refine tsT (by omega) ?_
    refine ⟨(b, n, l, none, 0, []), ⟨rfl, rfl, rfl, rfl, rfl, trivial⟩, Ext.refl _, r, rfl, ⟨fun _ h => h, fun hno o ho => ?_⟩⟩
    cases o with
    | none => exact hno
    | some e => exact absurd ho.1 (by simp)
  rintro ⟨b, n, m, lo, ln, lat⟩ e w2 ⟨hx2, r, rlat, hnear⟩
  simp only at r rlat hnear
  have x2 : HExt h0 w2.heap := x0.trans (hx1.trans hx2).1
  refine cl (side_spec (r.ext x2) (t.ext (hx1.trans hx2).1) hq) ?_
  rintro _ w3 ⟨hx3, c, rfl, hside⟩
  have hx13 := hx2.trans hx3
  have x3 := x2.trans hx3.1
  rcases hside with ⟨rfl, hcov⟩ | ⟨rfl, hgt⟩ | ⟨rfl, hlt⟩
  · refine tsF (by decide) ?_
    refine tsF (by decide) ?_
    refine cl (node_entry_spec (r.ext x3)) ?_
    rintro re w4 ⟨hx4, hent⟩
    have hx14 := hx13.trans hx4
    have hsz4 := hx14.1.1
    rcases hent with ⟨hn, rfl⟩ | ⟨rfl, p, v, pv, rfl, rfl, hfr⟩
    · obtain ⟨L, rfl⟩ : ∃ L, n = L + 1 := ⟨n - 1, by omega⟩
      have hL := r.lvl
      have hdq := dig_le L q (by omega)
      refine al ?_
      intro nc w5 hnc hx5 hsz5 hblk5
      refine st hblk5 rfl rfl rfl ?_
      intro w6 u6
      have hx16 : Ext w1 w6 := (hx14.trans hx5).upd (by omega) u6
      have x6 : HExt h0 w6.heap := x0.trans (hx1.trans hx16).1
      refine cl (node_level_spec (r.ext x6)) ?_
      rintro _ _ ⟨rfl, rfl⟩
      rw [show ((L + 1 : Nat) : Int) - 1 = L from by omega]
      refine cl (addr_spec (t.ext (hx1.trans hx16).1) (by omega) hL) ?_
      rintro _ _ ⟨rfl, rfl⟩
      refine nm (v := ((dig L q : Nat) : Int) + 1) (wr64 rfl (by omega) (by omega)) ?_
      refine cl (node_from_spec r x6 _) ?_
      rintro rf w7 ⟨hx7, hfrom⟩
      have hx17 := hx16.trans hx7
      have x7 := x6.trans hx7.1
      obtain ⟨hd1, hd2⟩ := hnear.down r hq hqs hcov
      rcases hfrom with ⟨rfl, hnone⟩ | ⟨a, p, n', rfl, ha, hak, hn', rp, hleast⟩
      · have hnear' := hd2 hnone
        refine cl (kid_spec r x7 (dig L q)) ?_
        rintro _ w8 ⟨hx8, o, n2, rfl, hn2, ho⟩
        have hx18 := hx17.trans hx8
        cases o with
        | some b' => exact ⟨rfl, (b', n2, atA L (dig L q) m, lo, ln, lat), ⟨⟨rfl, rfl, rfl, rfl, rfl, trivial⟩, hx18, ho, rlat, hnear'⟩, by simp only; omega⟩
        | none =>
          have hnil : atA L (dig L q) m = [] := ho
          refine cl (ptrO_first rlat (x7.trans hx8.1)) ?_
          rintro _ w9 ⟨hx9, o, va, vn, vcap, vx, rfl, ⟨hent⟩, hleast⟩
          have hL9 := hnear'.later (fun e he => by rw [hnil] at he; cases he) o hleast
          have hent' := hent.old (show w1.heap.size ≤ w8.heap.size from hx18.1.1)
          refine st ((hx18.trans hx9).blk hb1) rfl rfl rfl ?_
          intro w10 u10
          have h10 : w10.heap[nb]? = some (.cells #[.slice va vn vcap, U vx] T_api_Entry (0, 0)) := u10.new
          refine ldC (cs := [.slice va vn vcap, U vx]) (celsAt_blk (o := 0) h10 rfl) rfl ?_
          exact ⟨(hx1.trans (hx18.trans hx9)).upd (show w.heap.size ≤ nb by omega) u10, o, (hent'.upd hnb1 u10).old hx1.1.1, hL9⟩
      · have hnear' := hd1 a n' p ha rp hleast
        refine cl (kid_spec r x7 (dig L q)) ?_
        rintro _ w8 ⟨hx8, o, n2, rfl, hn2, ho⟩
        have hx18 := hx17.trans hx8
        cases o with
        | some b' => exact ⟨rfl, (b', n2, atA L (dig L q) m, some p, n', atA L a m), ⟨⟨rfl, rfl, rfl, rfl, rfl, trivial⟩, hx18, ho, rp, hnear'⟩, by simp only; omega⟩
        | none =>
          have hnil : atA L (dig L q) m = [] := ho
          refine cl (ptrO_first (o := some p) rp (x7.trans hx8.1)) ?_
          rintro _ w9 ⟨hx9, o, va, vn, vcap, vx, rfl, ⟨hent⟩, hleast⟩
          have hL9 := hnear'.later (fun e he => by rw [hnil] at he; cases he) o hleast
          have hent' := hent.old (show w1.heap.size ≤ w8.heap.size from hx18.1.1)
          refine st ((hx18.trans hx9).blk hb1) rfl rfl rfl ?_
          intro w10 u10
          have h10 : w10.heap[nb]? = some (.cells #[.slice va vn vcap, U vx] T_api_Entry (0, 0)) := u10.new
          refine ldC (cs := [.slice va vn vcap, U vx]) (celsAt_blk (o := 0) h10 rfl) rfl ?_
          exact ⟨(hx1.trans (hx18.trans hx9)).upd (show w.heap.size ≤ nb by omega) u10, o, (hent'.upd hnb1 u10).old hx1.1.1, hL9⟩
    · have hpq : p = q := by
        have := hcov (p, v) (.head _)
        rwa [shr_zero, shr_zero] at this
      subst hpq
      have hent : EntO w3 w4 (.tuple #[.agg #[pv, U v], .bool true]) (some (p, v)) := ⟨pv, rfl, hfr⟩
      have hent' := hent.old (show w1.heap.size ≤ w3.heap.size from hx13.1.1)
      have hL9 : Least (fun e => Z p ≤ Z e.1) l (some (p, v)) := hnear.here _ ⟨.head _, Nat.le_refl _, fun f hf _ => by rw [List.mem_singleton.1 hf]; exact Nat.le_refl _⟩
      obtain ⟨cb, cap, rest, rfl, hcb, hcblk⟩ := hfr.own
      refine al ?_
      intro nc w5 hnc hx5 hsz5 hblk5
      refine st hblk5 rfl rfl rfl ?_
      intro w6 u6
      have hx16 : Ext w1 w6 := (hx14.trans hx5).upd (by omega) u6
      have h6 : w6.heap[nc]? = some (.cells #[.slice (some ⟨cb, 0, none⟩) p.length cap, U v] T_api_Entry (0, 0)) := u6.new
      refine ldC (cs := [.slice (some ⟨cb, 0, none⟩) p.length cap, U v]) (celsAt_blk (o := 0) h6 rfl) rfl ?_
      refine st (hx16.blk hb1) rfl rfl rfl ?_
      intro w7 u7
      have h7 : w7.heap[nb]? = some (.cells #[.slice (some ⟨cb, 0, none⟩) p.length cap, U v] T_api_Entry (0, 0)) := u7.new
      refine ldC (cs := [.slice (some ⟨cb, 0, none⟩) p.length cap, U v]) (celsAt_blk (o := 0) h7 rfl) rfl ?_
      have hcl := lt_of_blk hcblk
      have hc6 := u6.old (show cb ≠ nc by omega) (hx5.blk hcblk)
      have hsz3 := hx13.1.1
      have hc7 := u7.old (show cb ≠ nb by omega) hc6
      exact ⟨(hx1.trans hx16).upd (show w.heap.size ≤ nb by omega) u7, some (p, v), ⟨_, rfl, Sl.ofBlk hc7 hqs, cb, cap, rest, rfl, by have := hx1.1.1; omega, hc7⟩, hL9⟩
  · refine tsT rfl ?_
    refine cl (ptrO_first (o := some b) r x3) ?_
    rintro _ w4 ⟨hx4, o, va, vn, vcap, vx, rfl, ⟨hent⟩, hleast⟩
    have hL9 := hnear.first hgt r.ne hleast
    have hent' := hent.old (show w1.heap.size ≤ w3.heap.size from hx13.1.1)
    refine st ((hx13.trans hx4).blk hb1) rfl rfl rfl ?_
    intro w10 u10
    have h10 : w10.heap[nb]? = some (.cells #[.slice va vn vcap, U vx] T_api_Entry (0, 0)) := u10.new
    refine ldC (cs := [.slice va vn vcap, U vx]) (celsAt_blk (o := 0) h10 rfl) rfl ?_
    exact ⟨(hx1.trans (hx13.trans hx4)).upd (show w.heap.size ≤ nb by omega) u10, _, (hent'.upd hnb1 u10).old hx1.1.1, hL9⟩
  · refine tsF (by decide) ?_
    refine tsT rfl ?_
    refine cl (ptrO_first rlat x3) ?_
    rintro _ w4 ⟨hx4, o, va, vn, vcap, vx, rfl, ⟨hent⟩, hleast⟩
    have hL9 := hnear.later (fun e he => by have := hlt e he; exact Nat.not_le.2 this) o hleast
    have hent' := hent.old (show w1.heap.size ≤ w3.heap.size from hx13.1.1)
    refine st ((hx13.trans hx4).blk hb1) rfl rfl rfl ?_
    intro w10 u10
    have h10 : w10.heap[nb]? = some (.cells #[.slice va vn vcap, U vx] T_api_Entry (0, 0)) := u10.new
    refine ldC (cs := [.slice va vn vcap, U vx]) (celsAt_blk (o := 0) h10 rfl) rfl ?_
    exact ⟨(hx1.trans (hx13.trans hx4)).upd (show w.heap.size ≤ nb by omega) u10, _, (hent'.upd hnb1 u10).old hx1.1.1, hL9⟩

end Go.Proofs.Ytlpndcfkjkbeoaa

namespace Go.Proofs.Ytlpndcfkjkbeoaa
open Go Go.Pan

/-! ### walk: behind -/

abbrev Aft (q : List Nat) : Ent → Prop := fun e => Z q < Z e.1

/-- the way down to a point that is there, the last step first; the entries below the place where it ends -/
inductive WayB (h : Array Obj) (k : Nat) (q : List Nat) (l : List Ent) : List (Nat × Nat) → List Ent → Prop where
  | start : WayB h k q l [] l
  | step {ps : List (Nat × Nat)} {m : List Ent} {b L : Nat} : WayB h k q l ps m → NodeRep h k b (L + 1) m → (∀ e ∈ m, shr (L + 1) e.1 = shr (L + 1) q) → (∀ e, Least (Aft q) m (some e) → Least (Aft q) l (some e)) → WayB h k q l ((b, dig L q) :: ps) (atA L (dig L q) m)

def stepV (c : Nat × Nat) : List Value := [ptr c.1, I c.2]
theorem stepV_len (c : Nat × Nat) : (stepV c).length = 2 := rfl

theorem least_aft {h : Array Obj} {k b L : Nat} {q : List Nat} {m : List Ent} (r : NodeRep h k b (L + 1) m) (hq : q.length = k) (hqs : small 64 q) (hc : ∀ e ∈ m, shr (L + 1) e.1 = shr (L + 1) q) {e : Ent} (he : Least (Aft q) (atA L (dig L q) m) (some e)) : Least (Aft q) m (some e) := by
  obtain ⟨h1, h2, h3⟩ := he
  have hem := mem_atA.1 h1
  refine ⟨hem.1, h2, fun f hf hzf => ?_⟩
  have hd := (r.digq hq hqs hc hf).1 (Nat.le_of_lt hzf)
  rcases Nat.eq_or_lt_of_le hd with g | g
  · exact h3 f (mem_atA.2 ⟨hf, g.symm⟩) hzf
  · exact Nat.le_of_lt ((r.digs hem.1 hf).2 (by rw [hem.2]; exact g))

theorem least_aft_next {h : Array Obj} {k b L a p n' : Nat} {q : List Nat} {m : List Ent} (r : NodeRep h k b (L + 1) m) (hq : q.length = k) (hqs : small 64 q) (hc : ∀ e ∈ m, shr (L + 1) e.1 = shr (L + 1) q)
    (hno : ∀ e ∈ atA L (dig L q) m, ¬ Aft q e) (ha : (dig L q + 1 : Int) ≤ (a : Nat)) (rp : NodeRep h k p n' (atA L a m)) (hl : ∀ e ∈ m, dig L e.1 < a → (dig L e.1 : Int) < dig L q + 1) {o : Option Ent} (ho : Least (fun _ => True) (atA L a m) o) : ∃ e, o = some e ∧ Least (Aft q) m (some e) := by
  cases o with
  | none =>
    obtain ⟨e0, he0⟩ := List.exists_mem_of_ne_nil _ rp.ne
    exact absurd trivial (ho e0 he0)
  | some e =>
    obtain ⟨he, -, hall⟩ := ho
    have hem := mem_atA.1 he
    refine ⟨e, rfl, hem.1, (r.digq hq hqs hc hem.1).2.1 (by omega), fun f hf hzf => ?_⟩
    have hd := (r.digq hq hqs hc hf).1 (Nat.le_of_lt hzf)
    rcases Nat.eq_or_lt_of_le hd with g | g
    · exact absurd hzf (hno f (mem_atA.2 ⟨hf, g.symm⟩))
    · rcases Nat.lt_trichotomy (dig L f.1) a with g2 | g2 | g2
      · have := hl f hf g2; omega
      · exact hall f (mem_atA.2 ⟨hf, g2⟩) trivial
      · exact Nat.le_of_lt ((r.digs hem.1 hf).2 (by rw [hem.2]; exact g2))

theorem no_aft_up {h : Array Obj} {k b L : Nat} {q : List Nat} {m : List Ent} (r : NodeRep h k b (L + 1) m) (hq : q.length = k) (hqs : small 64 q) (hc : ∀ e ∈ m, shr (L + 1) e.1 = shr (L + 1) q)
    (hno : ∀ e ∈ atA L (dig L q) m, ¬ Aft q e) (hl : ∀ e ∈ m, (dig L e.1 : Int) < dig L q + 1) : ∀ e ∈ m, ¬ Aft q e := fun e he hz => by
  have hd := (r.digq hq hqs hc he).1 (Nat.le_of_lt hz)
  have := hl e he
  exact hno e (mem_atA.2 ⟨he, by omega⟩) hz

set_option maxHeartbeats 1000000 in
theorem behind_spec {k b n : Nat} {l : List Ent} {w : World} {u : Value} {q : List Nat} {h0 : Array Obj} (r : NodeRep h0 k b n l) (x0 : HExt h0 w.heap) (t : Sl w.heap u q) (hq : q.length = k) (hin : ∃ x, (q, x) ∈ l) :
    CallK Try.prog F_walk_behind [ptr b, u] (fun r w' => Ext w w' ∧ ∃ o a n cap x, r = .tuple #[.agg #[.slice a n cap, U x], .bool o.isSome] ∧ EntF w w' a n cap x o ∧ Least (Aft q) l o) w := by
  obtain ⟨ua, ucap, rfl⟩ := t.form
  have hqs := t.small
  have hk1 := r.k1
  obtain ⟨_, _, _, _, _, _, _, _, _, _, _, hn64⟩ := r.head.ex
  refine e_walk_behind rfl ?_
  refine al ?_
  intro nb w1 hnb hx1 hsz1 hblk1
  have hb1 : w1.heap[nb]? = some (.cells #[.slice none 0 0, U 0] T_api_Entry (0, 0)) := hblk1
  have hnb1 : nb < w1.heap.size := by omega
  refine jl (sc := sc_walk_behind) tt_ok hmix 0 rfl (by kernel_rfl) (by kernel_rfl) (by kernel_rfl) (fun _ _ _ h => h)
    (fun s : Nat × Nat × List Ent × List (Nat × Nat) × Value => [(0, ptr s.1), (1, .slice ua q.length ucap), (4, ptr nb), (5, .bool false), (6, s.2.2.2.2)])
    (fun s w' => Ext w1 w' ∧ NodeRep h0 k s.1 s.2.1 s.2.2.1 ∧ WayB h0 k q l s.2.2.2.1 s.2.2.1 ∧ (∃ x, (q, x) ∈ s.2.2.1) ∧ (∀ e, Least (Aft q) s.2.2.1 (some e) → Least (Aft q) l (some e)) ∧ s.2.1 + s.2.2.2.1.length ≤ 64 ∧ w'.ownsRow w1.heap.size T_walk_step 2 s.2.2.2.2 s.2.2.2.1.length (s.2.2.2.1.reverse.flatMap stepV)) (fun s => s.2.1) ?_ ?_
  · exact ⟨(b, n, l, [], .slice none 0 0), ⟨rfl, rfl, rfl, rfl, rfl, trivial⟩, Ext.refl _, r, .start, hin, fun _ h => h, by simpa using hn64, own_none _ _ _ _⟩
  rintro ⟨b, n, m, ps, v⟩ e w2 ⟨hx2, r, hway, ⟨xq, hqm⟩, hhere, hlv, hown⟩
  simp only at r hway hqm hhere hlv hown
  have x2 : HExt h0 w2.heap := x0.trans (hx1.trans hx2).1
  have hcov : ∀ e ∈ m, shr n e.1 = shr n q := fun e he => by
    obtain ⟨_, pre, _, _, _, _, _, hpre, _⟩ := r.head.ex
    exact (hpre e he).trans (hpre (q, xq) hqm).symm
  refine cl (node_entry_spec (r.ext x2)) ?_
  rintro re w4 ⟨hx4, hent⟩
  have hx14 := hx2.trans hx4
  have hsz4 := hx14.1.1
  rcases hent with ⟨hn, rfl⟩ | ⟨rfl, p, xv, pv, rfl, rfl, hfr⟩
  · obtain ⟨L, rfl⟩ : ∃ L, n = L + 1 := ⟨n - 1, by omega⟩
    have hL := r.lvl
    have hdq := dig_le L q (by omega)
    refine al ?_
    intro nc w5 hnc hx5 hsz5 hblk5
    refine st hblk5 rfl rfl rfl ?_
    intro w6 u6
    have hx16 : Ext w1 w6 := (hx14.trans hx5).upd (by omega) u6
    have hx26 : Ext w2 w6 := (hx4.trans hx5).upd (by have := hx4.1.1; omega) u6
    have x6 : HExt h0 w6.heap := x0.trans (hx1.trans hx16).1
    refine cl (node_level_spec (r.ext x6)) ?_
    rintro _ _ ⟨rfl, rfl⟩
    rw [show ((L + 1 : Nat) : Int) - 1 = L from by omega]
    refine cl (addr_spec (t.ext (hx1.trans hx16).1) (by omega) hL) ?_
    rintro _ _ ⟨rfl, rfl⟩
    refine ⟨rfl, rfl, by decide, al ?_⟩
    intro nd w7 hnd hx7 hsz7 hblk7
    refine app tt_ok rfl rfl rfl rfl (by decide) rfl rfl (own_keep hown (hx26.trans hx7)) rfl (news := stepV (b, dig L q)) rfl (celsAt_blk (o := 0) hblk7 rfl) rfl (by omega) (by decide) (by have := (hx16.trans hx7).1.1; omega) ?_
    intro v' w8 ho8 hg8 hn8
    have hx18 : Ext w1 w8 := (hx16.trans hx7).grown hg8 (own_row (own_keep hown (hx26.trans hx7)))
    have x8 : HExt h0 w8.heap := x0.trans (hx1.trans hx18).1
    refine cl (kid_spec r x8 (dig L q)) ?_
    rintro _ w9 ⟨hx9, o, n2, rfl, hn2, ho⟩
    have hqa : (q, xq) ∈ atA L (dig L q) m := mem_atA.2 ⟨hqm, rfl⟩
    cases o with
    | none =>
      have : atA L (dig L q) m = [] := ho
      rw [this] at hqa; cases hqa
    | some b' =>
      refine ⟨rfl, (b', n2, atA L (dig L q) m, (b, dig L q) :: ps, v'), ⟨⟨rfl, rfl, rfl, rfl, rfl, trivial⟩, hx18.trans hx9, ho, .step hway r hcov hhere, ⟨xq, hqa⟩, fun e he => hhere e (least_aft r hq hqs hcov he), by simp only [List.length_cons]; omega, ?_⟩, by simp only; omega⟩
      simp only [List.length_cons, List.reverse_cons, List.flatMap_append, List.flatMap_cons, List.flatMap_nil, List.append_nil]
      exact own_keep ho8 hx9
  · obtain ⟨cb, cap, rest, rfl, hcb, hcblk⟩ := hfr.own
    refine al ?_
    intro nc w5 hnc hx5 hsz5 hblk5
    refine st hblk5 rfl rfl rfl ?_
    intro w6 u6
    have hx16 : Ext w1 w6 := (hx14.trans hx5).upd (by omega) u6
    have hx26 : Ext w2 w6 := (hx4.trans hx5).upd (by have := hx4.1.1; omega) u6
    have hno0 : ∀ e ∈ [(p, xv)], ¬ Aft q e := fun e he => by
      have h1 := List.mem_singleton.1 hqm
      rw [List.mem_singleton.1 he, ← h1]
      exact Nat.lt_irrefl _
    have hown6 := own_rw (own_keep hown hx26)
    obtain ⟨sa, scap, hv⟩ := hown6.form
    subst hv
    refine nm (v := ((ps.length : Nat) : Int) - 1) (wr64 rfl (by omega) (by omega)) ?_
    refine lp (fun s : List (Nat × Nat) × List Ent => [(4, ptr nb), (5, .bool false), (6, .slice sa ps.length scap), (11, I ((s.1.length : Nat) - 1))])
      (fun s w' => Ext w6 w' ∧ (∃ done, ps = done ++ s.1) ∧ WayB h0 k q l s.1 s.2 ∧ ∀ e ∈ s.2, ¬ Aft q e) (fun s => s.1.length) (ps, [(p, xv)]) ⟨rfl, rfl, rfl, rfl, trivial⟩ ⟨Ext.refl _, ⟨[], rfl⟩, hway, hno0⟩ ?_
    rintro ⟨R, m⟩ e0 w7 ⟨hx7, ⟨done, hdone⟩, hway, hno⟩
    simp only at hdone hway hno
    have hx17 := hx16.trans hx7
    have x7 : HExt h0 w7.heap := x0.trans (hx1.trans hx17).1
    cases hway with
    | start =>
      refine tsF (by simp) ?_
      refine st (hx17.blk hb1) rfl rfl rfl ?_
      intro w8 u8
      have h8 : w8.heap[nb]? = some (.cells #[.slice none 0 0, U 0] T_api_Entry (0, 0)) := u8.new
      refine ldC (cs := [.slice none 0 0, U 0]) (celsAt_blk (o := 0) h8 rfl) rfl ?_
      exact ⟨(hx1.trans hx17).upd (show w.heap.size ≤ nb by omega) u8, none, none, 0, 0, 0, rfl, ⟨rfl⟩, hno⟩
    | @step R' m' b1 L1 hway' r1 hcov1 hhere1 =>
      have hi : R'.length < ps.length := by rw [hdone, List.length_append, List.length_cons]; omega
      obtain ⟨sb, so, rfl, hcs⟩ := (own_rw (own_keep hown hx26)).place (by omega)
      have hcs7 := hx7.1.cels hcs
      have hel : ∀ i, i < 2 → (ps.reverse.flatMap stepV)[R'.length * 2 + i]? = (stepV (b1, dig L1 q))[i]? := fun i hi2 => by
        rw [flat_get stepV_len ps.reverse R'.length i (by simpa using hi) hi2]
        congr 2
        have : ps.reverse = R'.reverse ++ ((b1, dig L1 q) :: done.reverse) := by rw [hdone]; simp
        rw [List.getElem_of_eq this, List.getElem_append_right (by simp)]
        simp
      have hdq := dig_le L1 q (by omega)
      refine tsT (by simp only [List.length_cons]; omega) ?_
      refine ix (j := R'.length) (by simp only [List.length_cons]; omega) hi ?_
      refine ⟨by decide, ld (v := ptr b1) ?_ ?_⟩
      · have := hcs7.get (j := R'.length * 2 + 0) (hel 0 (by decide))
        rwa [← Nat.add_assoc] at this
      refine ix (j := R'.length) (by simp only [List.length_cons]; omega) hi ?_
      refine ⟨by decide, ld (v := I (dig L1 q)) ?_ ?_⟩
      · have := hcs7.get (j := R'.length * 2 + 1) (hel 1 (by decide))
        rwa [← Nat.add_assoc] at this
      refine nm (v := ((dig L1 q : Nat) : Int) + 1) (wr64 rfl (by omega) (by omega)) ?_
      refine cl (node_from_spec (w := drw w7) r1 x7 _) ?_
      rintro rf w8 ⟨hx8, hfrom⟩
      have hx8' : Ext w7 w8 := hx8
      refine ⟨hx8, ?_⟩
      have hx18 := hx17.trans hx8'
      have x8 := x7.trans hx8'.1
      rcases hfrom with ⟨rfl, hnone⟩ | ⟨a, pb, n', rfl, ha, hak, hn', rp, hleast⟩
      · refine nm (v := ((R'.length : Nat) : Int) - 1) (wr64 (by simp only [List.length_cons]; omega) (by omega) (by omega)) ?_
        exact ⟨(R', m'), ⟨⟨rfl, rfl, rfl, rfl, trivial⟩, hx7.trans hx8', ⟨done ++ [(b1, dig L1 q)], by rw [hdone]; simp⟩, hway', no_aft_up r1 hq hqs hcov1 hno hnone⟩, by simp only [List.length_cons]; omega⟩
      · refine cl (ptrO_first (o := some pb) rp x8) ?_
        rintro _ w9 ⟨hx9, o, va, vn, vcap, vx, rfl, ⟨hent⟩, hlst⟩
        obtain ⟨e1, rfl, hl1⟩ := least_aft_next r1 hq hqs hcov1 hno ha rp hleast hlst
        have hent' := hent.old (show w1.heap.size ≤ w8.heap.size from hx18.1.1)
        refine st ((hx18.trans hx9).blk hb1) rfl rfl rfl ?_
        intro w10 u10
        have h10 : w10.heap[nb]? = some (.cells #[.slice va vn vcap, U vx] T_api_Entry (0, 0)) := u10.new
        refine ldC (cs := [.slice va vn vcap, U vx]) (celsAt_blk (o := 0) h10 rfl) rfl ?_
        exact ⟨(hx1.trans (hx18.trans hx9)).upd (show w.heap.size ≤ nb by omega) u10, some e1, va, vn, vcap, vx, rfl, ⟨(hent'.upd hnb1 u10).old hx1.1.1⟩, hhere1 e1 hl1⟩

end Go.Proofs.Ytlpndcfkjkbeoaa

namespace Go.Pan
open Go

/-- nothing that was there has turned, but for one block -/
def ExtB (b : Nat) (w w' : World) : Prop := (w.heap.size ≤ w'.heap.size ∧ ∀ k, k < w.heap.size → k ≠ b → w'.heap[k]? = w.heap[k]?) ∧ w'.os = w.os ∧ w'.tape = w.tape ∧ w'.output = w.output
theorem Ext.toB {w w' : World} (x : Ext w w') (b : Nat) : ExtB b w w' := ⟨⟨x.1.1, fun k hk _ => x.1.2 k hk⟩, x.2⟩
theorem Upd.toB {w w' : World} {b : Nat} {o : Obj} (u : Upd w w' b o) : ExtB b w w' := ⟨⟨by rw [u.1]; exact Nat.le_refl _, fun k _ h => u.2.2.1 k h⟩, u.2.2.2⟩
theorem ExtB.trans {b : Nat} {w1 w2 w3 : World} (x : ExtB b w1 w2) (y : ExtB b w2 w3) : ExtB b w1 w3 :=
  ⟨⟨Nat.le_trans x.1.1 y.1.1, fun k hk h => (y.1.2 k (Nat.lt_of_lt_of_le hk x.1.1) h).trans (x.1.2 k hk h)⟩, y.2.1.trans x.2.1, y.2.2.1.trans x.2.2.1, y.2.2.2.trans x.2.2.2⟩
theorem Ext.transB {b : Nat} {w1 w2 w3 : World} (x : Ext w1 w2) (hb : w1.heap.size ≤ b) (y : ExtB b w2 w3) : Ext w1 w3 :=
  ⟨⟨Nat.le_trans x.1.1 y.1.1, fun k hk => (y.1.2 k (Nat.lt_of_lt_of_le hk x.1.1) (by omega)).trans (x.1.2 k hk)⟩, y.2.1.trans x.2.1, y.2.2.1.trans x.2.2.1, y.2.2.2.trans x.2.2.2⟩
theorem ExtB.blk {b c : Nat} {w w' : World} (x : ExtB b w w') (h : c ≠ b) {o : Obj} (hc : w.heap[c]? = some o) : w'.heap[c]? = some o := (x.1.2 c (lt_of_blk hc) h).trans hc
theorem HExt.transB {b : Nat} {h0 : Array Obj} {w w' : World} (x : HExt h0 w.heap) (hb : h0.size ≤ b) (y : ExtB b w w') : HExt h0 w'.heap :=
  ⟨Nat.le_trans x.1 y.1.1, fun k hk => (y.1.2 k (Nat.lt_of_lt_of_le hk x.1) (by omega)).trans (x.2 k hk)⟩
theorem ExtB.refl (b : Nat) (w : World) : ExtB b w w := (Ext.refl w).toB b

end Go.Pan
namespace Go.Proofs.Ytlpndcfkjkbeoaa
open Go Go.Pan

/-! ### cursors -/

theorem least_idx {P : Ent → Prop} {l : List Ent} (hs : Srt l) {i : Nat} (hi : i ≤ l.length) (h1 : ∀ j (h : j < l.length), j < i → ¬ P l[j]) (h2 : ∀ j (h : j < l.length), i ≤ j → P l[j]) {o : Option Ent} (ho : Least P l o) : o = l[i]? := by
  rcases Nat.lt_or_ge i l.length with g | g
  · rw [List.getElem?_eq_getElem g]
    cases o with
    | none => exact absurd (h2 i g (Nat.le_refl _)) (ho _ (List.getElem_mem g))
    | some e =>
      obtain ⟨he, hp, hall⟩ := ho
      obtain ⟨j, hj, rfl⟩ := List.getElem_of_mem he
      have hz := hall _ (List.getElem_mem g) (h2 i g (Nat.le_refl _))
      have hji : i ≤ j := Nat.le_of_not_lt fun h => h1 j hj h hp
      rcases Nat.eq_or_lt_of_le hji with e | e
      · subst e; rfl
      · have := List.pairwise_iff_getElem.1 hs i j g hj e; omega
  · rw [List.getElem?_eq_none g]
    cases o with
    | none => rfl
    | some e =>
      obtain ⟨he, hp, -⟩ := ho
      obtain ⟨j, hj, rfl⟩ := List.getElem_of_mem he
      exact absurd hp (h1 j hj (by omega))

theorem srt_lt {l : List Ent} (hs : Srt l) {i j : Nat} (hj : j < l.length) (h : i < j) : Z (l[i]'(by omega)).1 < Z l[j].1 := List.pairwise_iff_getElem.1 hs i j (by omega) hj h
theorem srt_le {l : List Ent} (hs : Srt l) {i j : Nat} (hj : j < l.length) (h : i ≤ j) : Z (l[i]'(by omega)).1 ≤ Z l[j].1 := by
  rcases Nat.eq_or_lt_of_le h with e | e
  · subst e; exact Nat.le_refl _
  · exact Nat.le_of_lt (srt_lt hs hj e)

/-- where a point stands in a list -/
structure IdxOf (l : List Ent) (q : List Nat) (i : Nat) : Prop where
  le : i ≤ l.length
  lo : ∀ j (h : j < l.length), j < i → Z l[j].1 < Z q
  hi : ∀ j (h : j < l.length), i ≤ j → Z q ≤ Z l[j].1
theorem IdxOf.least {l : List Ent} {q : List Nat} {i : Nat} (h : IdxOf l q i) (hs : Srt l) {o : Option Ent} (ho : Least (fun e => Z q ≤ Z e.1) l o) : o = l[i]? :=
  least_idx hs h.le (fun j hj g => Nat.not_le.2 (h.lo j hj g)) (fun j hj g => h.hi j hj g) ho
theorem IdxOf.uniq {l : List Ent} {q : List Nat} {i j : Nat} (h : IdxOf l q i) (g : IdxOf l q j) : i = j := by
  rcases Nat.lt_trichotomy i j with e | e | e
  · have := g.le
    have h1 := h.hi i (by omega) (Nat.le_refl _)
    have h2 := g.lo i (by omega) e
    omega
  · exact e
  · have := h.le
    have h1 := g.hi j (by omega) (Nat.le_refl _)
    have h2 := h.lo j (by omega) e
    omega
theorem idxOf_at {l : List Ent} (hs : Srt l) {i : Nat} (hi : i < l.length) : IdxOf l l[i].1 i := ⟨Nat.le_of_lt hi, fun _ _ g => srt_lt hs hi g, fun _ h g => srt_le hs h g⟩
theorem idxOf_ex {l : List Ent} (hs : Srt l) (q : List Nat) : ∃ i, IdxOf l q i := by
  induction l with
  | nil => exact ⟨0, Nat.le_refl _, fun j h => by simp at h, fun j h => by simp at h⟩
  | cons e l ih =>
    obtain ⟨h1, h2⟩ := List.pairwise_cons.1 hs
    obtain ⟨i, hle, hlo, hhi⟩ := ih h2
    by_cases g : Z e.1 < Z q
    · refine ⟨i + 1, by simpa using hle, fun j h hj => ?_, fun j h hj => ?_⟩
      · cases j with
        | zero => exact g
        | succ j => exact hlo j (by simpa using h) (by omega)
      · cases j with
        | zero => omega
        | succ j => exact hhi j (by simpa using h) (by omega)
    · refine ⟨0, Nat.zero_le _, fun j h hj => by omega, fun j h _ => ?_⟩
      cases j with
      | zero => simp only [List.getElem_cons_zero]; omega
      | succ j =>
        have := h1 _ (List.getElem_mem (show j < l.length by simpa using h))
        simp only [List.getElem_cons_succ]
        omega
theorem aft_idx {l : List Ent} (hs : Srt l) {i : Nat} (hi : i < l.length) {o : Option Ent} (ho : Least (Aft l[i].1) l o) : o = l[i + 1]? :=
  least_idx hs hi (fun j hj g => by have := srt_le hs hi (show j ≤ i by omega); exact Nat.not_lt.2 this) (fun j hj g => srt_lt hs hj (by omega)) ho
theorem first_idx {l : List Ent} (hs : Srt l) {o : Option Ent} (ho : Least (fun _ => True) l o) : o = l[0]? :=
  least_idx hs (Nat.zero_le _) (fun j hj g => by omega) (fun _ _ _ => trivial) ho

theorem from_o_spec {k n : Nat} {o : Option Nat} {l : List Ent} {w : World} {u : Value} {q : List Nat} {h0 : Array Obj} (r : NodeO h0 k o n l) (x0 : HExt h0 w.heap) (t : Sl w.heap u q) (hq : q.length = k) :
    CallK Try.prog F_walk_From [ptrO o, u] (fun r w' => Ext w w' ∧ ∃ o a n cap x, r = .tuple #[.agg #[.slice a n cap, U x], .bool o.isSome] ∧ EntF w w' a n cap x o ∧ Least (fun e => Z q ≤ Z e.1) l o) w := by
  cases o with
  | none =>
    have : l = [] := r
    subst this
    exact (walk_from_nil u w).mono fun _ _ ⟨h1, h2⟩ => ⟨h1, none, none, 0, 0, 0, h2, ⟨rfl⟩, by intro e he; cases he⟩
  | some b =>
    refine (walk_from_spec (show NodeRep h0 k b n l from r) x0 t hq).mono fun r w' ⟨h1, e, h2, h3⟩ => ?_
    obtain ⟨a, n, cap, x, rfl⟩ := h2.form
    exact ⟨h1, e, a, n, cap, x, rfl, ⟨h2⟩, h3⟩

/-- a cursor: its tree, the point in front of which it stands -/
def CurB (w : World) (b tb : Nat) (hv : Value) (past : Bool) : Prop := w.heap[b]? = some (.cells #[ptr tb, hv, .bool past] T_walk_Cursor (0, 0))

theorem stand_spec {b tb : Nat} {a : Option Addr} {n cap x : Nat} {va : Option Addr} {vn vcap : Nat} {past ok : Bool} {w : World} (hc : CurB w b tb (.slice va vn vcap) past) :
    CallK Try.prog F_walk_Cursor_stand [ptr b, .agg #[.slice a n cap, U x], .bool ok] (fun _ w' => ExtB b w w' ∧ CurB w' b tb (.slice a n cap) (!ok)) w := by
  refine e_walk_Cursor_stand rfl ?_
  refine al ?_
  intro nb w1 hnb hx1 hsz1 hblk1
  have hb1 : w1.heap[nb]? = some (.cells #[.slice a n cap, U x] T_api_Entry (0, 0)) := hblk1
  refine ⟨by decide, ldB hb1 rfl ?_⟩
  refine ⟨by decide, ?_⟩
  refine st (hx1.blk hc) rfl rfl rfl ?_
  intro w2 u2
  have h2 : w2.heap[b]? = some (.cells #[ptr tb, .slice a n cap, .bool past] T_walk_Cursor (0, 0)) := u2.new
  refine ⟨by decide, ?_⟩
  refine st h2 rfl rfl rfl ?_
  intro w3 u3
  exact ⟨((hx1.toB b).trans u2.toB).trans u3.toB, u3.new⟩

end Go.Proofs.Ytlpndcfkjkbeoaa

namespace Go.Proofs.Ytlpndcfkjkbeoaa
open Go Go.Pan

/-- a slice of coordinates: nil, or a block of its own kind -/
inductive SlT (h : Array Obj) : Value → List Nat → Prop where
  | nil (cap : Nat) : SlT h (.slice none 0 cap) []
  | some (c cap : Nat) (p : List Nat) (rest : List Value) (hb : h[c]? = Option.some (.cells (p.map U ++ rest).toArray T_u64 (0, 0))) (hs : ∀ x ∈ p, x < 2 ^ 64) : SlT h (.slice (Option.some ⟨c, 0, none⟩) p.length cap) p
theorem SlT.sl {h : Array Obj} {v : Value} {p : List Nat} (s : SlT h v p) : Sl h v p := by
  cases s with
  | nil cap => exact .nil none cap
  | some c cap _ rest hb hs => exact Sl.ofBlk hb hs
theorem SlT.ext {h h' : Array Obj} {v : Value} {p : List Nat} (x : HExt h h') (s : SlT h v p) : SlT h' v p := by
  cases s with
  | nil cap => exact .nil cap
  | some c cap _ rest hb hs => exact .some c cap p rest (x.blk hb) hs
theorem SlT.extB {w w' : World} {v : Value} {p : List Nat} {b : Nat} {cs : Array Value} {t : TypeId} {fz : Nat × Nat} (s : SlT w.heap v p) (hb : w.heap[b]? = Option.some (.cells cs t fz)) (ht : t ≠ T_u64) (x : ExtB b w w') : SlT w'.heap v p := by
  cases s with
  | nil cap => exact .nil cap
  | some c cap _ rest hc hs =>
    refine .some c cap p rest (x.blk (fun e => ?_) hc) hs
    subst e
    rw [hc] at hb
    cases hb
    exact ht rfl
theorem Fresh.slT {w0 w : World} {v : Value} {p : List Nat} (f : Fresh w0 w v p) : SlT w.heap v p := by
  obtain ⟨c, cap, rest, h1, h2, h3⟩ := f.own
  rw [h1]
  exact .some c cap p rest h3 f.sl.small

theorem EntF.sl {w0 w : World} {a : Option Addr} {n cap x : Nat} {o : Option Ent} (f : EntF w0 w a n cap x o) : ∃ p, SlT w.heap (.slice a n cap) p ∧ (∀ e, o = some e → p = e.1 ∧ x = e.2) ∧ (o = none → p = [] ∧ x = 0 ∧ a = none ∧ n = 0 ∧ cap = 0) := by
  cases o with
  | none =>
    have h := f.ent
    simp only [EntO, Value.tuple.injEq, Array.mk.injEq, List.cons.injEq, Value.agg.injEq, Value.slice.injEq, Value.int.injEq] at h
    obtain ⟨⟨⟨rfl, rfl, rfl⟩, ⟨-, hx⟩, -⟩, -⟩ := h
    exact ⟨[], .nil 0, ⟨(fun e h => by cases h), fun _ => ⟨rfl, by omega, rfl, rfl, rfl⟩⟩⟩
  | some e =>
    obtain ⟨pv, h, hf⟩ := f.ent
    simp only [Value.tuple.injEq, Array.mk.injEq, List.cons.injEq, Value.agg.injEq, Value.int.injEq] at h
    obtain ⟨⟨rfl, ⟨-, hx⟩, -⟩, -⟩ := h
    exact ⟨e.1, hf.slT, ⟨(fun e' h => by cases h; exact ⟨rfl, by omega⟩), fun h => by cases h⟩⟩
theorem EntF.old {w0 w1 w : World} {a : Option Addr} {n cap x : Nat} {o : Option Ent} (f : EntF w1 w a n cap x o) (h : w0.heap.size ≤ w1.heap.size) : EntF w0 w a n cap x o := ⟨f.ent.old h⟩
theorem EntF.upd {w0 w w' : World} {a : Option Addr} {n cap x : Nat} {o : Option Ent} {b : Nat} {ob : Obj} (f : EntF w0 w a n cap x o) (hb : b < w0.heap.size) (u : Upd w w' b ob) : EntF w0 w' a n cap x o := ⟨f.ent.upd hb u⟩
theorem EntF.extB {w0 w w' : World} {a : Option Addr} {n cap x : Nat} {o : Option Ent} {b : Nat} (f : EntF w0 w a n cap x o) (hb : b < w0.heap.size) (u : ExtB b w w') : EntF w0 w' a n cap x o := by
  cases o with
  | none => exact ⟨f.ent⟩
  | some e =>
    obtain ⟨pv, h, hf⟩ := f.ent
    refine ⟨pv, h, ?_⟩
    obtain ⟨c, cap, rest, h1, h2, h3⟩ := hf.own
    have h4 := u.blk (show c ≠ b by omega) h3
    refine ⟨?_, c, cap, rest, h1, h2, h4⟩
    rw [h1]
    exact Sl.ofBlk h4 hf.sl.small
theorem EntF.ext {w0 w w' : World} {a : Option Addr} {n cap x : Nat} {o : Option Ent} (f : EntF w0 w a n cap x o) (u : Ext w w') : EntF w0 w' a n cap x o := by
  cases o with
  | none => exact ⟨f.ent⟩
  | some e =>
    obtain ⟨pv, h, hf⟩ := f.ent
    exact ⟨pv, h, hf.ext u⟩

/-- a cursor in front of the entry of a place, or behind all -/
structure Cur (w : World) (b tb : Nat) (l : List Ent) (i : Nat) : Prop where
  ex : ∃ va vn vcap, CurB w b tb (.slice va vn vcap) (decide (l.length ≤ i)) ∧ ∃ p, SlT w.heap (.slice va vn vcap) p ∧ ∀ h : i < l.length, p = l[i].1
  le : i ≤ l.length
theorem Cur.ext {w w' : World} {b tb : Nat} {l : List Ent} {i : Nat} (c : Cur w b tb l i) (x : Ext w w') : Cur w' b tb l i := by
  obtain ⟨⟨va, vn, vcap, h1, p, h2, h3⟩, h4⟩ := c
  exact ⟨⟨va, vn, vcap, x.blk h1, p, h2.ext x.1, h3⟩, h4⟩
theorem Cur.extB {w w' : World} {b tb : Nat} {l : List Ent} {i : Nat} (c : Cur w b tb l i) {g : Nat} {cs : Array Value} {t : TypeId} {fz : Nat × Nat} (hg : w.heap[g]? = some (.cells cs t fz)) (ht : t ≠ T_u64) (ht2 : t ≠ T_walk_Cursor) (x : ExtB g w w') : Cur w' b tb l i := by
  obtain ⟨⟨va, vn, vcap, h1, p, h2, h3⟩, h4⟩ := c
  refine ⟨⟨va, vn, vcap, x.blk (fun e => ?_) h1, p, h2.extB hg ht x, h3⟩, h4⟩
  subst e
  unfold CurB at h1
  rw [h1] at hg
  cases hg
  exact ht2 rfl
/-- behind stand -/
theorem Cur.of {w0 w w' : World} {b tb : Nat} {l : List Ent} {i : Nat} {a : Option Addr} {n cap x : Nat} (f : EntF w0 w a n cap x l[i]?) (hb : b < w0.heap.size) (u : ExtB b w w') (hc : CurB w' b tb (.slice a n cap) (!(l[i]?).isSome)) (hi : i ≤ l.length) : Cur w' b tb l i := by
  obtain ⟨p, h1, h2, -⟩ := (f.extB hb u).sl
  refine ⟨⟨a, n, cap, ?_, p, h1, fun h => ?_⟩, hi⟩
  · rcases Nat.lt_or_ge i l.length with g | g
    · rw [decide_eq_false (by omega)]
      rw [List.getElem?_eq_getElem g] at hc
      exact hc
    · rw [decide_eq_true g]
      rw [List.getElem?_eq_none g] at hc
      exact hc
  · exact (h2 l[i] (List.getElem?_eq_getElem h)).1

theorem tree_root_h {k b : Nat} {l : List Ent} {w : World} {h0 : Array Obj} (tr : TreeRep h0 b k l) (x0 : HExt h0 w.heap) : CallK Try.prog F_tree_Tree_Root [ptr b] (fun r w' => w = w' ∧ ∃ o n, r = ptrO o ∧ NodeO h0 k o n l) w := by
  obtain ⟨⟨o, n, hb, ho⟩, -⟩ := tr
  refine e_tree_Tree_Root rfl ?_
  refine ⟨by decide, ldB (x0.blk hb) rfl ?_⟩
  exact ⟨rfl, o, n, rfl, ho⟩

theorem cursor_new_spec {k tb : Nat} {l : List Ent} {w : World} (tr : TreeRep w.heap tb k l) :
    CallK Try.prog F_walk_New [ptr tb] (fun r w' => Ext w w' ∧ ∃ b, r = ptr b ∧ w.heap.size ≤ b ∧ b < w'.heap.size ∧ Cur w' b tb l 0) w := by
  refine e_walk_New rfl ?_
  refine al ?_
  intro b w1 hb hx1 hsz1 hblk1
  have hb1 : CurB w1 b tb (.slice none 0 0) false := hblk1
  refine cl (tree_root_h tr hx1.1) ?_
  rintro _ _ ⟨rfl, o, n, rfl, ho⟩
  refine cl (ptrO_first ho hx1.1) ?_
  rintro _ w2 ⟨hx2, o2, a, n2, cap, x, rfl, hent, hl⟩
  obtain rfl := first_idx tr.srt hl
  refine cl (stand_spec (hx2.blk hb1)) ?_
  rintro _ w3 ⟨hx3, hc3⟩
  have hbl : b < w1.heap.size := by omega
  exact ⟨(hx1.trans hx2).transB (by omega) hx3, b, rfl, by omega, by have := hx2.1.1; have := hx3.1.1; omega, .of hent hbl hx3 hc3 (Nat.zero_le _)⟩

theorem cursor_seek_spec {k b tb : Nat} {l : List Ent} {w : World} {h0 : Array Obj} {u : Value} {q : List Nat} {i j : Nat} (tr : TreeRep h0 tb k l) (x0 : HExt h0 w.heap) (hc : Cur w b tb l i) (hb : h0.size ≤ b) (t : Sl w.heap u q) (hq : q.length = k) (hj : IdxOf l q j) :
    CallK Try.prog F_walk_Cursor_Seek [ptr b, u] (fun r w' => ExtB b w w' ∧ r = I 0 ∧ Cur w' b tb l j) w := by
  obtain ⟨⟨va, vn, vcap, hcb, p, hsl, hp⟩, hle⟩ := hc
  obtain ⟨ua, ucap, rfl⟩ := t.form
  refine e_walk_Cursor_Seek rfl ?_
  refine ⟨by decide, ldB hcb rfl ?_⟩
  refine cl (tree_k_spec (tr.ext x0)) ?_
  rintro _ _ ⟨rfl, rfl⟩
  refine tsT (by omega) ?_
  refine ⟨by decide, ldB hcb rfl ?_⟩
  refine cl (tree_root_h tr x0) ?_
  rintro _ _ ⟨rfl, o, n, rfl, ho⟩
  refine cl (from_o_spec ho x0 t hq) ?_
  rintro _ w2 ⟨hx2, o2, a, n2, cap, x, rfl, hent, hl⟩
  obtain rfl := hj.least tr.srt hl
  refine cl (stand_spec (hx2.blk hcb)) ?_
  rintro _ w3 ⟨hx3, hc3⟩
  exact ⟨(hx2.toB b).trans hx3, rfl, .of hent (lt_of_blk hcb) hx3 hc3 hj.le⟩
theorem cursor_seek_dim {k b tb : Nat} {l : List Ent} {w : World} {h0 : Array Obj} {u : Value} {q : List Nat} {i : Nat} (tr : TreeRep h0 tb k l) (x0 : HExt h0 w.heap) (hc : Cur w b tb l i) (t : Sl w.heap u q) (hq : q.length ≠ k) :
    CallK Try.prog F_walk_Cursor_Seek [ptr b, u] (fun r w' => w = w' ∧ r = I 2) w := by
  obtain ⟨⟨va, vn, vcap, hcb, p, hsl, hp⟩, hle⟩ := hc
  obtain ⟨ua, ucap, rfl⟩ := t.form
  refine e_walk_Cursor_Seek rfl ?_
  refine ⟨by decide, ldB hcb rfl ?_⟩
  refine cl (tree_k_spec (tr.ext x0)) ?_
  rintro _ _ ⟨rfl, rfl⟩
  refine tsF (by omega) ?_
  exact ⟨rfl, rfl⟩

end Go.Proofs.Ytlpndcfkjkbeoaa

namespace Go.Proofs.Ytlpndcfkjkbeoaa
open Go Go.Pan

theorem Cur.of' {w0 w' : World} {b tb : Nat} {l : List Ent} {i : Nat} {a : Option Addr} {n cap x : Nat} (f : EntF w0 w' a n cap x l[i]?) (hc : CurB w' b tb (.slice a n cap) (!(l[i]?).isSome)) (hi : i ≤ l.length) : Cur w' b tb l i := by
  obtain ⟨p, h1, h2, -⟩ := f.sl
  refine ⟨⟨a, n, cap, ?_, p, h1, fun h => ?_⟩, hi⟩
  · rcases Nat.lt_or_ge i l.length with g | g
    · rw [decide_eq_false (by omega)]
      rw [List.getElem?_eq_getElem g] at hc
      exact hc
    · rw [decide_eq_true g]
      rw [List.getElem?_eq_none g] at hc
      exact hc
  · exact (h2 l[i] (List.getElem?_eq_getElem h)).1

theorem next_extB {b nb : Nat} {w w1 w5 w6 w7 : World} {o : Obj} (hx1 : Ext w w1) (hx15 : Ext w1 w5) (hx6 : ExtB b w5 w6) (u7 : Upd w6 w7 nb o) (hnb : nb = w.heap.size) : ExtB b w w7 := by
  have h := ((hx1.trans hx15).toB b).trans hx6
  exact ⟨⟨by rw [u7.1]; exact h.1.1, fun k hk hkb => (u7.2.2.1 k (by omega)).trans (h.1.2 k hk hkb)⟩, u7.2.2.2.1.trans h.2.1, u7.2.2.2.2.1.trans h.2.2.1, u7.2.2.2.2.2.trans h.2.2.2⟩

theorem behind_o_spec {k n : Nat} {o : Option Nat} {l : List Ent} {w : World} {u : Value} {q : List Nat} {h0 : Array Obj} (r : NodeO h0 k o n l) (x0 : HExt h0 w.heap) (t : Sl w.heap u q) (hq : q.length = k) (hin : ∃ e, e ∈ l ∧ e.1 = q) :
    CallK Try.prog F_walk_behind [ptrO o, u] (fun r w' => Ext w w' ∧ ∃ o a n cap x, r = .tuple #[.agg #[.slice a n cap, U x], .bool o.isSome] ∧ EntF w w' a n cap x o ∧ Least (Aft q) l o) w := by
  obtain ⟨⟨q', x⟩, he, rfl⟩ := hin
  cases o with
  | none => rw [show l = [] from r] at he; cases he
  | some b => exact behind_spec (show NodeRep h0 k b n l from r) x0 t hq ⟨x, he⟩

set_option maxHeartbeats 2000000 in
theorem cursor_next_spec {k b tb : Nat} {l : List Ent} {w : World} {h0 : Array Obj} {i : Nat} (tr : TreeRep h0 tb k l) (x0 : HExt h0 w.heap) (hc : Cur w b tb l i) (hb : h0.size ≤ b) :
    CallK Try.prog F_walk_Cursor_Next [ptr b] (fun r w' => ExtB b w w' ∧ (∃ a n cap x, r = .tuple #[.agg #[.slice a n cap, U x], .bool (l[i]?).isSome] ∧ EntF w w' a n cap x l[i]?) ∧ Cur w' b tb l (if i < l.length then i + 1 else i)) w := by
  obtain ⟨⟨va, vn, vcap, hcb, p, hsl, hp⟩, hle⟩ := hc
  have hbw := lt_of_blk hcb
  refine e_walk_Cursor_Next rfl ?_
  refine al ?_
  intro nb w1 hnb hx1 hsz1 hblk1
  have hb1 : w1.heap[nb]? = some (.cells #[.slice none 0 0, U 0] T_api_Entry (0, 0)) := hblk1
  by_cases hi : i < l.length
  case neg =>
    rw [decide_eq_true (Nat.le_of_not_lt hi)] at hcb
    refine ⟨by decide, ldB (hx1.blk hcb) rfl ?_⟩
    refine st hb1 rfl rfl rfl ?_
    intro w2 u2
    have h2 : w2.heap[nb]? = some (.cells #[.slice none 0 0, U 0] T_api_Entry (0, 0)) := u2.new
    refine ldC (cs := [.slice none 0 0, U 0]) (celsAt_blk (o := 0) h2 rfl) rfl ?_
    have hx2 : Ext w w2 := hx1.upd (by omega) u2
    rw [if_neg hi, List.getElem?_eq_none (by omega)]
    refine ⟨hx2.toB b, ⟨none, 0, 0, 0, rfl, ⟨rfl⟩⟩, ⟨va, vn, vcap, ?_, p, hsl.ext hx2.1, hp⟩, hle⟩
    rw [decide_eq_true (Nat.le_of_not_lt hi)]
    exact hx2.blk hcb
  rw [decide_eq_false (by omega)] at hcb
  obtain rfl := hp hi
  replace hsl := hsl.sl
  obtain ⟨pa, pcap, hpf⟩ := hsl.form
  rw [hpf] at hsl hcb
  clear hpf
  have hlen : l[i].1.length = k := (tr.ok _ (List.getElem_mem hi)).1
  have hcb1 := hx1.blk hcb
  refine ⟨by decide, ldB hcb1 rfl ?_⟩
  refine ⟨by decide, ldB hcb1 rfl ?_⟩
  refine ⟨by decide, ldB hcb1 rfl ?_⟩
  -- behind both orders: the first's answer lies in a cell
  have x1 : HExt h0 w1.heap := x0.trans hx1.1
  have hs1 := hx1.1.1
  refine ⟨?_, ?_⟩
  · refine cl (tree_root_h (w := drw w1) tr x1) ?_
    rintro _ _ ⟨rfl, o, n, rfl, ho⟩
    refine ⟨Ext.refl _, ?_, ?_⟩
    · refine cl (from_o_spec (w := drw w1) ho x1 (hsl.ext hx1.1) hlen) ?_
      rintro _ w2 ⟨hx2, o2, a, n2, cap, x, rfl, hent, hl⟩
      obtain rfl := (idxOf_at tr.srt hi).least tr.srt hl
      have hx2' : Ext w1 w2 := hx2
      refine ⟨hx2, al ?_⟩
      intro nc w3 hnc hx3 hsz3 hblk3
      refine ⟨hx2'.trans hx3, ?_⟩
      refine st hblk3 rfl rfl rfl ?_
      intro w4 u4
      have hs2 := hx2'.1.1
      have hx4 : Ext w1 w4 := (hx2'.trans hx3).upd (by omega) u4
      have hent4 : EntF w1 w4 a n2 cap x l[i]? := (hent.old (w0 := w1) (Nat.le_refl _)).ext (hx3.upd (by omega) u4)
      have hc4 : w4.heap[nc]? = some (.cells #[.slice a n2 cap, U x] T_api_Entry (0, 0)) := u4.new
      have hncb : w1.heap.size ≤ nc := by omega
      refine ⟨hx4, ?_⟩
      refine ⟨by decide, ldB (hx4.blk hcb1) rfl ?_⟩
      refine ⟨by decide, ldB (hx4.blk hcb1) rfl ?_⟩
      refine cl (tree_root_h (w := drw w4) tr (x1.trans hx4.1)) ?_
      rintro _ _ ⟨rfl, o', n', rfl, ho'⟩
      refine ⟨Ext.refl _, ?_⟩
      refine cl (behind_o_spec (w := drw w4) ho' (x1.trans hx4.1) (hsl.ext (hx1.trans hx4).1) hlen ⟨_, List.getElem_mem hi, rfl⟩) ?_
      rintro _ w5 ⟨hx5, o3, a3, n3, cap3, x3, rfl, hent5, hl5⟩
      obtain rfl := aft_idx tr.srt hi hl5
      have hx5' : Ext w4 w5 := hx5
      have hent5' : EntF w4 w5 a3 n3 cap3 x3 l[i + 1]? := hent5.old (Nat.le_refl _)
      have hx15 := hx4.trans hx5'
      refine ⟨hx5, ?_⟩
      refine cl (stand_spec (hx15.blk hcb1)) ?_
      rintro _ w6 ⟨hx6, hc6⟩
      have hcl := lt_of_blk hc4
      refine ldC (cs := [.slice a n2 cap, U x]) (celsAt_blk (o := 0) (hx6.blk (show nc ≠ b by omega) (hx5'.blk hc4)) rfl) rfl ?_
      refine st (hx6.blk (show nb ≠ b by omega) (hx15.blk hb1)) rfl rfl rfl ?_
      intro w7 u7
      have h7 : w7.heap[nb]? = some (.cells #[.slice a n2 cap, U x] T_api_Entry (0, 0)) := u7.new
      refine ldC (cs := [.slice a n2 cap, U x]) (celsAt_blk (o := 0) h7 rfl) rfl ?_
      have hs4 := hx4.1.1
      have hent7 : EntF w1 w7 a n2 cap x l[i]? := ((hent4.ext hx5').extB (by omega) hx6).upd (by omega) u7
      have hent57 : EntF w1 w7 a3 n3 cap3 x3 l[i + 1]? := ((hent5'.old hs4).extB (by omega) hx6).upd (by omega) u7
      rw [if_pos hi]
      exact ⟨next_extB hx1 hx15 hx6 u7 hnb, ⟨a, n2, cap, x, rfl, hent7.old hs1⟩, .of' hent57 (u7.old (show b ≠ nb by omega) hc6) hi⟩
    · refine al ?_
      intro nc w3 hnc hx3 hsz3 hblk3
      have hx3' : Ext w1 w3 := hx3
      have hnc' : nc = w1.heap.size := hnc
      refine ⟨hx3, ?_⟩
      refine cl (from_o_spec ho (x1.trans hx3'.1) (hsl.ext (hx1.trans hx3').1) hlen) ?_
      rintro _ w2 ⟨hx2, o2, a, n2, cap, x, rfl, hent, hl⟩
      obtain rfl := (idxOf_at tr.srt hi).least tr.srt hl
      refine ⟨hx3'.trans hx2, ?_⟩
      refine st (hx2.blk hblk3) rfl rfl rfl ?_
      intro w4 u4
      have hx4 : Ext w1 w4 := (hx3'.trans hx2).upd (by omega) u4
      have hent4 : EntF w1 w4 a n2 cap x l[i]? := (hent.upd (by omega) u4).old hx3'.1.1
      have hc4 : w4.heap[nc]? = some (.cells #[.slice a n2 cap, U x] T_api_Entry (0, 0)) := u4.new
      have hncb : w1.heap.size ≤ nc := by omega
      refine ⟨hx4, ?_⟩
      refine ⟨by decide, ldB (hx4.blk hcb1) rfl ?_⟩
      refine ⟨by decide, ldB (hx4.blk hcb1) rfl ?_⟩
      refine cl (tree_root_h (w := drw w4) tr (x1.trans hx4.1)) ?_
      rintro _ _ ⟨rfl, o', n', rfl, ho'⟩
      refine ⟨Ext.refl _, ?_⟩
      refine cl (behind_o_spec (w := drw w4) ho' (x1.trans hx4.1) (hsl.ext (hx1.trans hx4).1) hlen ⟨_, List.getElem_mem hi, rfl⟩) ?_
      rintro _ w5 ⟨hx5, o3, a3, n3, cap3, x3, rfl, hent5, hl5⟩
      obtain rfl := aft_idx tr.srt hi hl5
      have hx5' : Ext w4 w5 := hx5
      have hent5' : EntF w4 w5 a3 n3 cap3 x3 l[i + 1]? := hent5.old (Nat.le_refl _)
      have hx15 := hx4.trans hx5'
      refine ⟨hx5, ?_⟩
      refine cl (stand_spec (hx15.blk hcb1)) ?_
      rintro _ w6 ⟨hx6, hc6⟩
      have hcl := lt_of_blk hc4
      refine ldC (cs := [.slice a n2 cap, U x]) (celsAt_blk (o := 0) (hx6.blk (show nc ≠ b by omega) (hx5'.blk hc4)) rfl) rfl ?_
      refine st (hx6.blk (show nb ≠ b by omega) (hx15.blk hb1)) rfl rfl rfl ?_
      intro w7 u7
      have h7 : w7.heap[nb]? = some (.cells #[.slice a n2 cap, U x] T_api_Entry (0, 0)) := u7.new
      refine ldC (cs := [.slice a n2 cap, U x]) (celsAt_blk (o := 0) h7 rfl) rfl ?_
      have hs4 := hx4.1.1
      have hent7 : EntF w1 w7 a n2 cap x l[i]? := ((hent4.ext hx5').extB (by omega) hx6).upd (by omega) u7
      have hent57 : EntF w1 w7 a3 n3 cap3 x3 l[i + 1]? := ((hent5'.old hs4).extB (by omega) hx6).upd (by omega) u7
      rw [if_pos hi]
      exact ⟨next_extB hx1 hx15 hx6 u7 hnb, ⟨a, n2, cap, x, rfl, hent7.old hs1⟩, .of' hent57 (u7.old (show b ≠ nb by omega) hc6) hi⟩
  · refine al ?_
    intro nc w3 hnc hx3 hsz3 hblk3
    have hx3' : Ext w1 w3 := hx3
    have hnc' : nc = w1.heap.size := hnc
    refine ⟨hx3, ?_⟩
    refine cl (tree_root_h tr (x1.trans hx3'.1)) ?_
    rintro _ _ ⟨rfl, o, n, rfl, ho⟩
    refine ⟨hx3, ?_⟩
    refine cl (from_o_spec ho (x1.trans hx3'.1) (hsl.ext (hx1.trans hx3').1) hlen) ?_
    rintro _ w2 ⟨hx2, o2, a, n2, cap, x, rfl, hent, hl⟩
    obtain rfl := (idxOf_at tr.srt hi).least tr.srt hl
    refine ⟨hx3'.trans hx2, ?_⟩
    refine st (hx2.blk hblk3) rfl rfl rfl ?_
    intro w4 u4
    have hx4 : Ext w1 w4 := (hx3'.trans hx2).upd (by omega) u4
    have hent4 : EntF w1 w4 a n2 cap x l[i]? := (hent.upd (by omega) u4).old hx3'.1.1
    have hc4 : w4.heap[nc]? = some (.cells #[.slice a n2 cap, U x] T_api_Entry (0, 0)) := u4.new
    have hncb : w1.heap.size ≤ nc := by omega
    refine ⟨hx4, ?_⟩
    refine ⟨by decide, ldB (hx4.blk hcb1) rfl ?_⟩
    refine ⟨by decide, ldB (hx4.blk hcb1) rfl ?_⟩
    refine cl (tree_root_h (w := drw w4) tr (x1.trans hx4.1)) ?_
    rintro _ _ ⟨rfl, o', n', rfl, ho'⟩
    refine ⟨Ext.refl _, ?_⟩
    refine cl (behind_o_spec (w := drw w4) ho' (x1.trans hx4.1) (hsl.ext (hx1.trans hx4).1) hlen ⟨_, List.getElem_mem hi, rfl⟩) ?_
    rintro _ w5 ⟨hx5, o3, a3, n3, cap3, x3, rfl, hent5, hl5⟩
    obtain rfl := aft_idx tr.srt hi hl5
    have hx5' : Ext w4 w5 := hx5
    have hent5' : EntF w4 w5 a3 n3 cap3 x3 l[i + 1]? := hent5.old (Nat.le_refl _)
    have hx15 := hx4.trans hx5'
    refine ⟨hx5, ?_⟩
    refine cl (stand_spec (hx15.blk hcb1)) ?_
    rintro _ w6 ⟨hx6, hc6⟩
    have hcl := lt_of_blk hc4
    refine ldC (cs := [.slice a n2 cap, U x]) (celsAt_blk (o := 0) (hx6.blk (show nc ≠ b by omega) (hx5'.blk hc4)) rfl) rfl ?_
    refine st (hx6.blk (show nb ≠ b by omega) (hx15.blk hb1)) rfl rfl rfl ?_
    intro w7 u7
    have h7 : w7.heap[nb]? = some (.cells #[.slice a n2 cap, U x] T_api_Entry (0, 0)) := u7.new
    refine ldC (cs := [.slice a n2 cap, U x]) (celsAt_blk (o := 0) h7 rfl) rfl ?_
    have hs4 := hx4.1.1
    have hent7 : EntF w1 w7 a n2 cap x l[i]? := ((hent4.ext hx5').extB (by omega) hx6).upd (by omega) u7
    have hent57 : EntF w1 w7 a3 n3 cap3 x3 l[i + 1]? := ((hent5'.old hs4).extB (by omega) hx6).upd (by omega) u7
    rw [if_pos hi]
    exact ⟨next_extB hx1 hx15 hx6 u7 hnb, ⟨a, n2, cap, x, rfl, hent7.old hs1⟩, .of' hent57 (u7.old (show b ≠ nb by omega) hc6) hi⟩

end Go.Proofs.Ytlpndcfkjkbeoaa

namespace Go.Pan
open Go

/-! ### a scope whose label stands behind several statements -/

def seqs : List Code → Code → Code
  | [], c => c
  | p :: ps, c => .seq p (seqs ps c)
def denPs (P : Program) (tt : Nat → Option TI) (n : Nat) (sc : Nat → Sc) : List Code → Ks → Env → World → Prop
  | [], K => K.nrm
  | p :: ps, K => den P tt n sc p { K with nrm := denPs P tt n sc ps K }

section
variable {P : Program} {tt : Nat → Option TI}
theorem jls_wp {n : Nat} {sc : Nat → Sc} (htt : ∀ t i, tt t = some i → tiOf P t = some i) (hmix : P.follows .mixedOrders = true) {c : Code} {Q : Exit → Act → World → Prop} {K : Ks} :
    ∀ (ps : List Code), ps.all (chk n sc) = true → (∀ e w a, Rep n a e → K.nrm e w → c.wp P Q a w) → (∀ i e a w, Rep n a e → K.ext i e w → Q (.exit i) a w) → (∀ i e a w, Rep n a e → K.gto i e w → Q (.goto i) a w) → (∀ e a w, Rep n a e → K.ret e w → Q .ret a w) →
      ∀ e w a, Rep n a e → denPs P tt n sc ps K e w → (seqs ps c).wp P Q a w
  | [], _, h, _, _, _, e, w, a, r, hd => h e w a r hd
  | p :: ps, hp, h, he, hg, hr, e, w, a, r, hd => by
    simp only [List.all_cons, Bool.and_eq_true] at hp
    refine wp_seq (wp_mono (den_sound htt hmix p _ e w a r hp.1 hd) ?_)
    intro ex a' w' hq
    cases ex with
    | normal => obtain ⟨e', r', h'⟩ := hq; exact jls_wp htt hmix ps hp.2 h he hg hr e' w' a' r' h'
    | exit i => obtain ⟨e', r', h'⟩ := hq; exact he i e' a' w' r' h'
    | goto i => obtain ⟨e', r', h'⟩ := hq; exact hg i e' a' w' r' h'
    | ret => obtain ⟨e', r', h'⟩ := hq; exact hr e' a' w' r' h'
    | panic _ => exact hq.elim
    | outgrown => exact hq.elim

theorem jls {n : Nat} {sc : Nat → Sc} {ps : List Code} {rest0 rest : Code} {K : Ks} {e : Env} {w : World} (htt : ∀ t i, tt t = some i → tiOf P t = some i) (hmix : P.follows .mixedOrders = true)
    (l : Nat) (hf : findLabel (seqs ps (.seq (.label l) rest0)) l = some rest) (hp : ps.all (chk n sc) = true) (hc : chk n sc (.seq (.label l) rest0) = true) (hr : chk n sc rest = true)
    (hd : ∀ K e w, den P tt n sc rest K e w → den P tt n sc (.seq (.label l) rest0) K e w) {σ : Type} (L : σ → List (Nat × Value)) (J : σ → World → Prop) (μ : σ → Nat)
    (first : denPs P tt n sc ps { nrm := fun e' w' => ∃ s, Has e' (L s) ∧ J s w', ext := K.ext, gto := fun _ _ _ => False, ret := K.ret } e w)
    (pass : ∀ s e w, J s w → den P tt n sc rest { K with gto := fun l' e' w' => l' = l ∧ ∃ s', (Has e' (L s') ∧ J s' w') ∧ μ s' < μ s } (upds e (L s)) w) : SemK P n (.scope (seqs ps (.seq (.label l) rest0))) K e w := by
  have pass' : ∀ s e w, (Has e (L s) ∧ J s w) → den P tt n sc rest { K with gto := fun l' e' w' => l' = l ∧ ∃ s', (Has e' (L s') ∧ J s' w') ∧ μ s' < μ s } e w := fun s e w ⟨h1, h2⟩ => by
    have := pass s e w h2
    rw [h1.upds] at this
    exact this
  refine ⟨fun a r => ?_⟩
  let G : σ → Act × World → Prop := fun s x => ∃ e, Rep n x.1 e ∧ Has e (L s) ∧ J s x.2
  refine wp_scope_jumps l (fun a w => ∃ s, G s (a, w)) (fun a w => ghost G μ (a, w)) hf ?_ ?_
  · refine jls_wp (K := { nrm := fun e' w' => ∃ s, Has e' (L s) ∧ J s w', ext := K.ext, gto := fun _ _ _ => False, ret := K.ret }) htt hmix ps hp (fun e' w' a' r' hs => ?_) (fun i e a w r h => ⟨e, r, h⟩) (fun i e a w r h => h.elim) (fun e a w r h => ⟨e, r, h⟩) e w a r first
    obtain ⟨s, h1⟩ := hs
    refine wp_mono (den_sound htt hmix (.seq (.label l) rest0) _ e' w' a' r' hc (hd _ _ _ (pass' s e' w' h1))) ?_
    intro ex a2 w2 hq
    cases ex with
    | goto l' => obtain ⟨e2, r2, h2, s', h3, h4⟩ := hq; exact ⟨h2, s', e2, r2, h3⟩
    | _ => exact hq
  · intro a w hI
    obtain ⟨⟨s, ⟨e, r, hs⟩, hμ⟩, _⟩ := ghost_spec (μ := μ) hI
    refine wp_mono (den_sound htt hmix rest _ e w a r hr (pass' s e w hs)) ?_
    intro ex a' w' hq
    cases ex with
    | goto l' =>
      obtain ⟨e', r', h1, s', h2, h3⟩ := hq
      have hJ : G s' (a', w') := ⟨e', r', h2⟩
      have := (ghost_spec (μ := μ) ⟨s', hJ⟩).2 s' hJ
      exact ⟨h1, ⟨s', hJ⟩, by rw [← hμ]; omega⟩
    | _ => exact hq
end

end Go.Pan
namespace Go.Proofs.Ytlpndcfkjkbeoaa
open Go Go.Pan

/-! ### rank: counts -/

/-- how many entries are ahead of a point; how many have an address below one -/
def ltN (q : List Nat) (l : List Ent) : Nat := (l.filter fun e => decide (Z e.1 < Z q)).length
def belowN (L a : Nat) (l : List Ent) : Nat := (l.filter fun e => decide (dig L e.1 < a)).length

theorem belowN_zero (L : Nat) (l : List Ent) : belowN L 0 l = 0 := by
  unfold belowN
  rw [List.filter_eq_nil_iff.2 (by simp)]; rfl
theorem belowN_same {L a c : Nat} {l : List Ent} (hca : c ≤ a) (h : ∀ e ∈ l, dig L e.1 < a → dig L e.1 < c) : belowN L a l = belowN L c l := by
  unfold belowN
  congr 1
  refine List.filter_congr fun e he => ?_
  congr 1
  apply propext
  exact ⟨h e he, fun g => by omega⟩
theorem belowN_succ (L a : Nat) (l : List Ent) : belowN L (a + 1) l = belowN L a l + (atA L a l).length := by
  unfold belowN atA
  induction l with
  | nil => rfl
  | cons e l ih =>
    simp only [List.filter_cons]
    rcases Nat.lt_trichotomy (dig L e.1) a with g | g | g
    · rw [if_pos (by simpa using by omega), if_pos (by simpa using g), if_neg (by simpa using by omega), List.length_cons, List.length_cons, ih]; omega
    · rw [if_pos (by simpa using by omega), if_neg (by simpa using by omega), if_pos (by simpa using g), List.length_cons, List.length_cons, ih]; omega
    · rw [if_neg (by simpa using by omega), if_neg (by simpa using by omega), if_neg (by simpa using by omega), ih]
theorem belowN_le (L a : Nat) (l : List Ent) : belowN L a l ≤ l.length := List.length_filter_le ..
theorem belowN_all {L a : Nat} {l : List Ent} (h : ∀ e ∈ l, dig L e.1 < a) : belowN L a l = l.length := by
  unfold belowN
  rw [List.filter_eq_self.2 (fun e he => by simpa using h e he)]
theorem atA_le (L a : Nat) (l : List Ent) : (atA L a l).length ≤ l.length := List.length_filter_le ..

theorem idxOf_ltN {l : List Ent} (hs : Srt l) (q : List Nat) : IdxOf l q (ltN q l) := by
  obtain ⟨i, h⟩ := idxOf_ex hs q
  suffices ltN q l = i by rw [this]; exact h
  unfold ltN
  have hsplit : l = l.take i ++ l.drop i := (List.take_append_drop i l).symm
  conv => lhs; rw [hsplit]
  rw [List.filter_append, List.filter_eq_self.2, List.filter_eq_nil_iff.2, List.append_nil, List.length_take]
  · have := h.le; omega
  · intro e he
    obtain ⟨j, hj, rfl⟩ := List.getElem_of_mem he
    rw [List.length_drop] at hj
    rw [List.getElem_drop]
    have := h.hi (i + j) (by omega) (by omega)
    simp only [decide_eq_true_eq]; omega
  · intro e he
    obtain ⟨j, hj, rfl⟩ := List.getElem_of_mem he
    rw [List.length_take] at hj
    rw [List.getElem_take]
    simpa using h.lo j (by omega) (by omega)

theorem NodeRep.ltN {h : Array Obj} {k b L : Nat} {l : List Ent} (r : NodeRep h k b (L + 1) l) {q : List Nat} (hq : q.length = k) (hqs : small 64 q) (hc : ∀ e ∈ l, shr (L + 1) e.1 = shr (L + 1) q) :
    ltN q l = belowN L (dig L q) l + Go.Proofs.Ytlpndcfkjkbeoaa.ltN q (atA L (dig L q) l) := by
  have hd : ∀ e ∈ l, (dig L q < dig L e.1 → Z q < Z e.1) ∧ (dig L e.1 < dig L q → Z e.1 < Z q) := fun e he => ⟨(r.digq hq hqs hc he).2.1, (r.digq hq hqs hc he).2.2.1⟩
  clear r hc
  unfold Go.Proofs.Ytlpndcfkjkbeoaa.ltN belowN atA
  induction l with
  | nil => rfl
  | cons e l ih =>
    have he := hd e (by simp)
    have ih := ih fun e h => hd e (by simp [h])
    simp only [List.filter_cons]
    rcases Nat.lt_trichotomy (dig L e.1) (dig L q) with g | g | g
    · rw [if_pos (by simpa using he.2 g), if_pos (by simpa using g), if_neg (by simpa using by omega), List.length_cons, List.length_cons, ih]; omega
    · rw [if_neg (show ¬ (decide (dig L e.1 < dig L q) = true) by simpa using by omega), if_pos (show decide (dig L e.1 = dig L q) = true by simpa using g)]
      simp only [List.filter_cons]
      by_cases hz : Z e.1 < Z q
      · rw [if_pos (by simpa using hz), if_pos (by simpa using hz), List.length_cons, List.length_cons, ih]; omega
      · rw [if_neg (by simpa using hz), if_neg (by simpa using hz), ih]
    · have := he.1 g
      rw [if_neg (by simpa using by omega), if_neg (by simpa using by omega), if_neg (by simpa using by omega), ih]

theorem ltN_none {q : List Nat} {l : List Ent} (h : ∀ e ∈ l, Z q < Z e.1) : ltN q l = 0 := by
  unfold ltN
  rw [List.filter_eq_nil_iff.2 fun e he => by have := h e he; simp only [decide_eq_true_eq]; omega]; rfl
theorem ltN_all {q : List Nat} {l : List Ent} (h : ∀ e ∈ l, Z e.1 < Z q) : ltN q l = l.length := by
  unfold ltN
  rw [List.filter_eq_self.2 fun e he => by simpa using h e he]

theorem split3 {L a : Nat} : ∀ {l : List Ent}, l.Pairwise (fun e f => dig L e.1 ≤ dig L f.1) → l = l.filter (fun e => decide (dig L e.1 < a)) ++ (atA L a l ++ l.filter (fun e => decide (a < dig L e.1)))
  | [], _ => rfl
  | e :: l, h => by
    obtain ⟨h1, h2⟩ := List.pairwise_cons.1 h
    have ih := split3 (a := a) h2
    unfold atA at ih ⊢
    simp only [List.filter_cons]
    rcases Nat.lt_trichotomy (dig L e.1) a with g | g | g
    · rw [if_pos (by simpa using g), if_neg (by simpa using by omega), if_neg (by simpa using by omega), List.cons_append, ← ih]
    · rw [if_neg (by simpa using by omega), if_pos (by simpa using g), if_neg (by simpa using by omega)]
      have hn : l.filter (fun e => decide (dig L e.1 < a)) = [] := List.filter_eq_nil_iff.2 fun f hf => by have := h1 f hf; simp only [decide_eq_true_eq]; omega
      rw [hn] at ih ⊢
      rw [List.nil_append, List.cons_append]
      congr 1
    · rw [if_neg (by simpa using by omega), if_neg (by simpa using by omega), if_pos (by simpa using g)]
      have hn : l.filter (fun e => decide (dig L e.1 < a)) = [] := List.filter_eq_nil_iff.2 fun f hf => by have := h1 f hf; simp only [decide_eq_true_eq]; omega
      have hn2 : l.filter (fun e => decide (dig L e.1 = a)) = [] := List.filter_eq_nil_iff.2 fun f hf => by have := h1 f hf; simp only [decide_eq_true_eq]; omega
      rw [hn, hn2] at ih ⊢
      rw [List.nil_append, List.nil_append] at ih ⊢
      congr 1

theorem NodeRep.mono {h : Array Obj} {k b L : Nat} {l : List Ent} (r : NodeRep h k b (L + 1) l) : l.Pairwise (fun e f => dig L e.1 ≤ dig L f.1) := by
  have hs := r.srt
  refine List.pairwise_iff_getElem.2 fun i j hi hj hij => ?_
  exact (r.digs (List.getElem_mem hi) (List.getElem_mem hj)).1 (Nat.le_of_lt (List.pairwise_iff_getElem.1 hs i j hi hj hij))

theorem NodeRep.nth {h : Array Obj} {k b L : Nat} {l : List Ent} (r : NodeRep h k b (L + 1) l) {a i : Nat} (hi : i < (atA L a l).length) : l[i + belowN L a l]? = (atA L a l)[i]? := by
  have hs := split3 (a := a) r.mono
  have : l[i + belowN L a l]? = (l.filter (fun e => decide (dig L e.1 < a)) ++ (atA L a l ++ l.filter (fun e => decide (a < dig L e.1))))[i + belowN L a l]? := congrArg (fun m : List Ent => m[i + belowN L a l]?) hs
  rw [this, Nat.add_comm]
  unfold belowN
  rw [List.getElem?_append_right (Nat.le_add_right _ _), Nat.add_sub_cancel_left, List.getElem?_append_left hi]

end Go.Proofs.Ytlpndcfkjkbeoaa

namespace Go.Proofs.Ytlpndcfkjkbeoaa
open Go Go.Pan

theorem count_spec {k b n : Nat} {l : List Ent} {w : World} {h0 : Array Obj} (r : NodeRep h0 k b n l) (x0 : HExt h0 w.heap) (hl : l.length < 2 ^ 62) : CallK Try.prog F_rank_count [ptr b] (fun r w' => Ext w w' ∧ r = I l.length) w := by
  refine e_rank_count rfl ?_
  refine cl (node_sums_spec (r.ext x0)) ?_
  rintro _ w1 ⟨hx, rfl⟩
  refine nm (v := ((l.length : Nat) : Int)) (wr64 (by rw [Nat.mod_eq_of_lt (by omega)]) (by omega) (by omega)) ?_
  exact ⟨hx, rfl⟩

theorem rank_check_spec {k b : Nat} {l : List Ent} {w : World} (tr : TreeRep w.heap b k l) {u : Value} {q : List Nat} (t : Sl w.heap u q) :
    CallK Try.prog F_rank_check [ptr b, u] (fun r w' => w = w' ∧ r = if q.length = k then I 0 else I 2) w := by
  obtain ⟨a, cap, rfl⟩ := t.form
  refine e_rank_check rfl ?_
  refine cl (tree_k_spec tr) ?_
  rintro _ _ ⟨rfl, rfl⟩
  refine ts (fun g => ?_) (fun g => ?_)
  · refine ⟨rfl, ?_⟩
    rw [if_pos (by omega)]
    rfl
  · refine ⟨rfl, ?_⟩
    rw [if_neg (by omega)]
    rfl

theorem rank_ahead_spec {k b n : Nat} {l : List Ent} {w : World} {u : Value} {q : List Nat} (r : NodeRep w.heap k b n l) (t : Sl w.heap u q) (hq : q.length = k) (hc : ¬ (q.length = k ∧ ∀ e ∈ l, shr n e.1 = shr n q)) :
    CallK Try.prog F_rank_ahead [ptr b, u] (fun r w' => Ext w w' ∧ ((r = .bool false ∧ (∀ e ∈ l, Z q < Z e.1)) ∨ (r = .bool true ∧ ∀ e ∈ l, Z e.1 < Z q))) w := by
  have hk1 := r.k1
  refine e_rank_ahead rfl ?_
  refine cl (node_prefix_spec r) ?_
  rintro pv w1 ⟨hx1, pre, hfr, hpk, hpre, -⟩
  refine cl (cmp_spec hfr.sl (t.ext hx1.1)) ?_
  rintro _ _ ⟨rfl, rfl⟩
  obtain ⟨_, _, _, _, _, _, _, _, _, _, _, hn⟩ := r.head.ex
  rw [show cmpV pre q = .tuple #[I (cmpZ pre q), I 0] from if_pos ⟨by omega, by omega, by omega⟩]
  rcases cmp_side hpk hfr.sl.small hq t.small r.ok r.ne hn hpre hc with ⟨h1, h2⟩ | ⟨h1, h2⟩
  · rw [h1]
    refine tsF (by decide) ?_
    exact ⟨hx1, .inl ⟨rfl, h2⟩⟩
  · rw [h1]
    refine tsT (by decide) ?_
    exact ⟨hx1, .inr ⟨rfl, h2⟩⟩

/-- the kid that From has answered: the least address from c on -/
def KidAt (h : Array Obj) (k L : Nat) (l : List Ent) (c : Nat) : Option (Nat × Nat × Nat) → Prop
  | none => ∀ e ∈ l, dig L e.1 < c
  | some (a, p, n') => c ≤ a ∧ a < 2 ^ k ∧ n' ≤ L ∧ NodeRep h k p n' (atA L a l) ∧ ∀ e ∈ l, dig L e.1 < a → dig L e.1 < c
def kidA : Option (Nat × Nat × Nat) → Value
  | none => I 0
  | some (a, _, _) => I a
def kidP : Option (Nat × Nat × Nat) → Value
  | none => nilp
  | some (_, p, _) => ptr p
theorem from_at_spec {k b L : Nat} {l : List Ent} {w : World} {h0 : Array Obj} (r : NodeRep h0 k b (L + 1) l) (x0 : HExt h0 w.heap) {c : Nat} {addr : Int} (ha : addr = c) :
    CallK Try.prog F_node_Node_From [ptr b, I addr] (fun r w' => Ext w w' ∧ ∃ o, r = .tuple #[kidA o, kidP o] ∧ KidAt h0 k L l c o) w := by
  subst ha
  refine (node_from_spec r x0 _).mono fun r w' ⟨h1, h2⟩ => ⟨h1, ?_⟩
  rcases h2 with ⟨rfl, h⟩ | ⟨a, p, n', rfl, h1, h2, h3, h4, h5⟩
  · exact ⟨none, rfl, fun e he => by have := h e he; omega⟩
  · exact ⟨some (a, p, n'), rfl, by omega, h2, h3, h4, fun e he g => by have := h5 e he g; omega⟩

set_option maxHeartbeats 1000000 in
theorem rank_of_spec {k tb : Nat} {l : List Ent} {w : World} (tr : TreeRep w.heap tb k l) (hl : l.length ≤ 100000) {u : Value} {q : List Nat} (t : Sl w.heap u q) (hq : q.length = k) :
    CallK Try.prog F_rank_Of [ptr tb, u] (fun r w' => Ext w w' ∧ r = .tuple #[I (ltN q l), I 0]) w := by
  obtain ⟨ua, ucap, rfl⟩ := t.form
  have hqs := t.small
  have hk1 := tr.k1
  have hk16 := tr.k16
  refine e_rank_Of rfl ?_
  refine jls (ps := [_, _]) (sc := sc0) tt_ok hmix 0 rfl (by kernel_rfl) (by kernel_rfl) (by kernel_rfl) (fun _ _ _ h => h)
    (fun s : Nat × Option Nat × Nat × List Ent => [(1, .slice ua q.length ucap), (7, I s.1), (8, ptrO s.2.1)])
    (fun s w' => Ext w w' ∧ NodeO w.heap k s.2.1 s.2.2.1 s.2.2.2 ∧ s.1 + ltN q s.2.2.2 = ltN q l ∧ s.2.2.2.length ≤ l.length ∧ s.1 ≤ l.length) (fun s => s.2.2.1) ?_ ?_
  · refine cl (rank_check_spec tr t) ?_
    rintro _ _ ⟨rfl, rfl⟩
    rw [if_pos hq]
    refine tsT rfl ?_
    refine cl (tree_root_h tr (HExt.refl _)) ?_
    rintro _ _ ⟨rfl, o, n, rfl, ho⟩
    exact ⟨(0, o, n, l), ⟨rfl, rfl, rfl, trivial⟩, Ext.refl _, ho, by simp, Nat.le_refl _, Nat.zero_le _⟩
  rintro ⟨out, o, n, m⟩ e w1 ⟨hx1, ho, hsum, hml, hol⟩
  simp only at ho hsum hml hol
  have hlt : ltN q m ≤ m.length := List.length_filter_le ..
  have hlt0 : ltN q l ≤ l.length := List.length_filter_le ..
  cases o with
  | none =>
    have : m = [] := ho
    subst this
    refine ⟨hx1, ?_⟩
    rw [← hsum]
    rfl
  | some b =>
    have r : NodeRep w.heap k b n m := ho
    refine cl (node_covers_spec (r.ext hx1.1) (t.ext hx1.1)) ?_
    rintro _ _ ⟨rfl, rfl⟩
    by_cases hc : q.length = k ∧ ∀ e ∈ m, shr n e.1 = shr n q
    case neg =>
      rw [decide_eq_false hc]
      refine cl (rank_ahead_spec (r.ext hx1.1) (t.ext hx1.1) hq hc) ?_
      rintro _ w2 ⟨hx2, ⟨rfl, hgt⟩ | ⟨rfl, hlt2⟩⟩
      · refine ⟨hx1.trans hx2, ?_⟩
        rw [← hsum, ltN_none hgt]
        rfl
      · refine cl (count_spec r (hx1.trans hx2).1 (by omega)) ?_
        rintro _ w3 ⟨hx3, rfl⟩
        refine nm (v := ((out + m.length : Nat) : Int)) (wr64 (by simp) (by omega) (by omega)) ?_
        refine ⟨(hx1.trans hx2).trans hx3, ?_⟩
        rw [← hsum, ltN_all hlt2]
        rfl
    rw [decide_eq_true hc]
    refine cl (node_level_spec (r.ext hx1.1)) ?_
    rintro _ _ ⟨rfl, rfl⟩
    rcases Nat.eq_zero_or_pos n with rfl | hn
    · refine tsT (by decide) ?_
      refine ⟨hx1, ?_⟩
      have : ltN q m = 0 := by
        unfold ltN
        rw [List.filter_eq_nil_iff.2 fun e he => ?_]; rfl
        have := hc.2 e he
        rw [shr_zero, shr_zero] at this
        rw [this]; simp
      rw [← hsum, this]
      rfl
    obtain ⟨L, rfl⟩ : ∃ L, n = L + 1 := ⟨n - 1, by omega⟩
    have hL := r.lvl
    have hdq := dig_le L q (by omega)
    refine tsF (by omega) ?_
    refine cl (node_level_spec (r.ext hx1.1)) ?_
    rintro _ _ ⟨rfl, rfl⟩
    rw [show ((L + 1 : Nat) : Int) - 1 = L from by omega]
    refine cl (addr_spec (t.ext hx1.1) (by omega) hL) ?_
    rintro _ _ ⟨rfl, rfl⟩
    refine cl (from_at_spec r hx1.1 (c := 0) rfl) ?_
    rintro _ w2 ⟨hx2, o, rfl, hk0⟩
    have hkid := r.ltN hq hqs hc.2
    refine lp (fun s : Nat × Option (Nat × Nat × Nat) => [(1, .slice ua q.length ucap), (7, I (out + belowN L s.1 m : Nat)), (8, ptr b), (9, I (dig L q)), (11, kidA s.2), (12, kidP s.2)])
      (fun s w' => Ext w w' ∧ KidAt w.heap k L m s.1 s.2 ∧ s.1 ≤ dig L q) (fun s => dig L q - s.1) (0, o) ⟨rfl, by rw [belowN_zero]; rfl, rfl, rfl, rfl, rfl, trivial⟩ ⟨hx1.trans hx2, hk0, Nat.zero_le _⟩ ?_
    rintro ⟨c, o⟩ e0 w3 ⟨hx3, hk3, hcd⟩
    simp only at hk3 hcd
    have hbl := belowN_le L c m
    -- behind the loop
    have key : ∀ {o}, KidAt w.heap k L m c o → (∀ a p n', o = some (a, p, n') → dig L q ≤ a) → belowN L c m = belowN L (dig L q) m := by
      intro o hk hge
      refine (belowN_same hcd fun e he g => ?_).symm
      cases o with
      | none => exact hk e he
      | some s => obtain ⟨a, p, n'⟩ := s; exact hk.2.2.2.2 e he (by have := hge a p n' rfl; omega)
    cases o with
    | none =>
      have hb := key hk3 (fun a p n' h => by cases h)
      refine cl (kid_spec r hx3.1 (dig L q)) ?_
      rintro _ w4 ⟨hx4, o', n', rfl, hn', ho'⟩
      refine ⟨rfl, (out + belowN L c m, o', n', atA L (dig L q) m), ⟨⟨rfl, rfl, rfl, trivial⟩, hx3.trans hx4, ho', by rw [← hsum, hkid, hb]; simp only; omega, by have := atA_le L (dig L q) m; simp only; omega, by simp only; omega⟩, by simp only; omega⟩
    | some s =>
      obtain ⟨a, p, n'⟩ := s
      obtain ⟨hca, hak, hn', rp, hleast⟩ := hk3
      have h16 : (2 : Nat) ^ k ≤ 2 ^ 16 := Nat.pow_le_pow_right (by decide) hk16
      refine ts (fun g => ?_) (fun g => ?_)
      · refine cl (count_spec rp hx3.1 (by have := atA_le L a m; omega)) ?_
        rintro _ w4 ⟨hx4, rfl⟩
        have hb1 : belowN L (a + 1) m = belowN L c m + (atA L a m).length := by rw [belowN_succ, belowN_same hca hleast]
        have hbl1 := belowN_le L (a + 1) m
        refine nm (v := ((out + belowN L (a + 1) m : Nat) : Int)) (wr64 (by rw [hb1]; simp; omega) (by omega) (by omega)) ?_
        refine nm (v := ((a : Nat) : Int) + 1) (wr64 rfl (by omega) (by omega)) ?_
        refine cl (from_at_spec r (hx3.trans hx4).1 (c := a + 1) (by simp)) ?_
        rintro _ w5 ⟨hx5, o', rfl, hk5⟩
        exact ⟨(a + 1, o'), ⟨⟨rfl, rfl, rfl, rfl, rfl, rfl, trivial⟩, (hx3.trans hx4).trans hx5, hk5, by simp only; omega⟩, by simp only; omega⟩
      · have hb := key (o := some (a, p, n')) ⟨hca, hak, hn', rp, hleast⟩ (fun a' p' n'' h => by cases h; omega)
        refine cl (kid_spec r hx3.1 (dig L q)) ?_
        rintro _ w4 ⟨hx4, o', n', rfl, hn', ho'⟩
        refine ⟨rfl, (out + belowN L c m, o', n', atA L (dig L q) m), ⟨⟨rfl, rfl, rfl, trivial⟩, hx3.trans hx4, ho', by rw [← hsum, hkid, hb]; simp only; omega, by have := atA_le L (dig L q) m; simp only; omega, by simp only; omega⟩, by simp only; omega⟩

end Go.Proofs.Ytlpndcfkjkbeoaa

namespace Go.Proofs.Ytlpndcfkjkbeoaa
open Go Go.Pan

theorem rank_of_dim {k tb : Nat} {l : List Ent} {w : World} (tr : TreeRep w.heap tb k l) {u : Value} {q : List Nat} (t : Sl w.heap u q) (hq : q.length ≠ k) :
    CallK Try.prog F_rank_Of [ptr tb, u] (fun r w' => Ext w w' ∧ r = .tuple #[I 0, I 2]) w := by
  refine e_rank_Of rfl ?_
  refine jls (ps := [_, _]) (sc := sc0) tt_ok hmix 0 rfl (by kernel_rfl) (by kernel_rfl) (by kernel_rfl) (fun _ _ _ h => h)
    (fun _ : Unit => []) (fun _ _ => False) (fun _ => 0) ?_ (fun _ _ _ h => h.elim)
  refine cl (rank_check_spec tr t) ?_
  rintro _ _ ⟨rfl, rfl⟩
  rw [if_neg hq]
  refine tsF (by decide) ?_
  exact ⟨Ext.refl _, rfl⟩

set_option maxHeartbeats 1000000 in
theorem nth_spec {k b n : Nat} {l : List Ent} {w : World} {h0 : Array Obj} (r : NodeRep h0 k b n l) (x0 : HExt h0 w.heap) (hl : l.length ≤ 100000) {i : Nat} (hi : i < l.length) :
    CallK Try.prog F_rank_nth [ptr b, I i] (fun r w' => Ext w w' ∧ ∃ a n cap x, r = .agg #[.slice a n cap, U x] ∧ EntF w w' a n cap x (some l[i])) w := by
  refine e_rank_nth rfl ?_
  refine al ?_
  intro nb w1 hnb hx1 hsz1 hblk1
  have hb1 : w1.heap[nb]? = some (.cells #[.slice none 0 0, U 0] T_api_Entry (0, 0)) := hblk1
  have hk16 := r.k1
  refine jl0 (sc := sc0) tt_ok hmix 0 rfl (by kernel_rfl) (by kernel_rfl) (fun _ _ _ h => h)
    (fun s : Nat × Nat × List Ent × Nat => [(0, ptr s.1), (1, I s.2.2.2), (4, ptr nb)]) (fun s w' => Ext w1 w' ∧ NodeRep h0 k s.1 s.2.1 s.2.2.1 ∧ s.2.2.1[s.2.2.2]? = some l[i] ∧ s.2.2.1.length ≤ 100000) (fun s => s.2.1)
    (b, n, l, i) ⟨rfl, rfl, rfl, trivial⟩ ⟨Ext.refl _, r, List.getElem?_eq_getElem hi, hl⟩ ?_
  rintro ⟨b, n, m, j⟩ e w2 ⟨hx2, r, hm, hml⟩
  simp only at r hm hml
  have x2 : HExt h0 w2.heap := x0.trans (hx1.trans hx2).1
  have hjm := (List.getElem?_eq_some_iff.1 hm).1
  refine cl (node_entry_spec (r.ext x2)) ?_
  rintro re w3 ⟨hx3, hent⟩
  have hsz3 : w1.heap.size ≤ w3.heap.size := (hx2.trans hx3).1.1
  rcases hent with ⟨hn, rfl⟩ | ⟨rfl, p, v, pv, rfl, rfl, hfr⟩
  · refine al ?_
    intro nc w4 hnc hx4 hsz4 hblk4
    refine st hblk4 rfl rfl rfl ?_
    intro w5 u5
    have hx15 : Ext w1 w5 := ((hx2.trans hx3).trans hx4).upd (by omega) u5
    obtain ⟨L, rfl⟩ : ∃ L, n = L + 1 := ⟨n - 1, by omega⟩
    have x5 : HExt h0 w5.heap := x0.trans (hx1.trans hx15).1
    refine cl (from_at_spec r x5 (c := 0) rfl) ?_
    rintro _ w6 ⟨hx6, o, rfl, hk0⟩
    refine lp (fun s : Nat × Nat × Option (Nat × Nat × Nat) => [(0, ptr b), (1, I s.2.1), (4, ptr nb), (7, kidA s.2.2), (8, kidP s.2.2)])
      (fun s w' => Ext w1 w' ∧ KidAt h0 k L m s.1 s.2.2 ∧ s.2.1 + belowN L s.1 m = j) (fun s => s.2.1 + (2 ^ k - s.1)) (0, j, o) ⟨rfl, rfl, rfl, rfl, rfl, trivial⟩ ⟨hx15.trans hx6, hk0, by rw [belowN_zero]; rfl⟩ ?_
    rintro ⟨c, i', o⟩ e0 w7 ⟨hx7, hk7, hsum⟩
    simp only at hk7 hsum
    have x7 : HExt h0 w7.heap := x0.trans (hx1.trans hx7).1
    cases o with
    | none =>
      have := belowN_all (L := L) (a := c) hk7
      omega
    | some s =>
      obtain ⟨a, p, n'⟩ := s
      obtain ⟨hca, hak, hn', rp, hleast⟩ := hk7
      have h16 : (2 : Nat) ^ k ≤ 2 ^ 16 := Nat.pow_le_pow_right (by decide) hk16.2
      have hba : belowN L a m = belowN L c m := belowN_same hca hleast
      have hale := atA_le L a m
      refine cl (count_spec rp x7 (by omega)) ?_
      rintro _ w8 ⟨hx8, rfl⟩
      refine ts (fun g => ?_) (fun g => ?_)
      · have g2 : ((atA L a m).length : Int) ≤ i' := g
        refine cl (count_spec rp (x7.trans hx8.1) (by omega)) ?_
        rintro _ w9 ⟨hx9, rfl⟩
        refine nm (v := ((i' - (atA L a m).length : Nat) : Int)) (wr64 (show (i' : Int) - ((atA L a m).length : Nat) = _ by omega) (by omega) (by omega)) ?_
        refine nm (v := ((a : Nat) : Int) + 1) (wr64 rfl (by omega) (by omega)) ?_
        refine cl (from_at_spec r (x7.trans (hx8.trans hx9).1) (c := a + 1) (by simp)) ?_
        rintro _ w10 ⟨hx10, o', rfl, hk10⟩
        exact ⟨(a + 1, i' - (atA L a m).length, o'), ⟨⟨rfl, rfl, rfl, rfl, rfl, trivial⟩, ((hx7.trans hx8).trans hx9).trans hx10, hk10, by rw [belowN_succ, hba]; simp only; omega⟩, by simp only; omega⟩
      · have g2 : ¬ ((atA L a m).length : Int) ≤ i' := g
        have hlt : i' < (atA L a m).length := by omega
        have := r.nth hlt
        rw [hba, hsum] at this
        exact ⟨rfl, (p, n', atA L a m, i'), ⟨⟨rfl, rfl, rfl, trivial⟩, hx7.trans hx8, rp, this.symm.trans hm, by simp only; omega⟩, by simp only; omega⟩
  · obtain ⟨cb, cap, rest, rfl, hcb, hcblk⟩ := hfr.own
    have hj0 : j = 0 := by simp at hjm; exact hjm
    subst hj0
    have hlp : (p, v) = l[i] := by simpa using hm
    refine al ?_
    intro nc w4 hnc hx4 hsz4 hblk4
    refine st hblk4 rfl rfl rfl ?_
    intro w5 u5
    have hx15 : Ext w1 w5 := ((hx2.trans hx3).trans hx4).upd (by omega) u5
    have h5 : w5.heap[nc]? = some (.cells #[.slice (some ⟨cb, 0, none⟩) p.length cap, U v] T_api_Entry (0, 0)) := u5.new
    have hcl := lt_of_blk hcblk
    have hc5 := u5.old (show cb ≠ nc by omega) (hx4.blk hcblk)
    refine ldC (cs := [.slice (some ⟨cb, 0, none⟩) p.length cap, U v]) (celsAt_blk (o := 0) h5 rfl) rfl ?_
    refine st (hx15.blk hb1) rfl rfl rfl ?_
    intro w6 u6
    have h6 : w6.heap[nb]? = some (.cells #[.slice (some ⟨cb, 0, none⟩) p.length cap, U v] T_api_Entry (0, 0)) := u6.new
    refine ldC (cs := [.slice (some ⟨cb, 0, none⟩) p.length cap, U v]) (celsAt_blk (o := 0) h6 rfl) rfl ?_
    have hnb1 : nb < w1.heap.size := by omega
    have hw2 : w1.heap.size ≤ w2.heap.size := hx2.1.1
    have hc6 := u6.old (show cb ≠ nb by omega) hc5
    rw [← hlp]
    exact ⟨(hx1.trans hx15).upd (show w.heap.size ≤ nb by omega) u6, _, p.length, cap, v, rfl, ⟨_, rfl, Sl.ofBlk hc6 hfr.sl.small, cb, cap, rest, rfl, by have := hx1.1.1; omega, hc6⟩⟩

end Go.Proofs.Ytlpndcfkjkbeoaa

namespace Go.Proofs.Ytlpndcfkjkbeoaa
open Go Go.Pan

theorem nth_o_spec {k n : Nat} {o : Option Nat} {l : List Ent} {w : World} {h0 : Array Obj} (r : NodeO h0 k o n l) (x0 : HExt h0 w.heap) (hl : l.length ≤ 100000) {i : Nat} (hi : i < l.length) :
    CallK Try.prog F_rank_nth [ptrO o, I i] (fun r w' => Ext w w' ∧ ∃ a n cap x, r = .agg #[.slice a n cap, U x] ∧ EntF w w' a n cap x (some l[i])) w := by
  cases o with
  | none => rw [show l = [] from r] at hi; simp at hi
  | some b => exact nth_spec (show NodeRep h0 k b n l from r) x0 hl hi

theorem Fresh.extB {w0 w w' : World} {v : Value} {p : List Nat} {b : Nat} (f : Fresh w0 w v p) (hb : b < w0.heap.size) (u : ExtB b w w') : Fresh w0 w' v p := by
  obtain ⟨c, cap, rest, h1, h2, h3⟩ := f.own
  have h4 := u.blk (show c ≠ b by omega) h3
  refine ⟨?_, c, cap, rest, h1, h2, h4⟩
  rw [h1]
  exact Sl.ofBlk h4 f.sl.small

/-- rows that read as entries, each point in new memory -/
structure EntsF (w0 w : World) (R : List (Value × Nat)) (l : List Ent) : Prop where
  len : R.length = l.length
  ok : ∀ i (h1 : i < R.length) (h2 : i < l.length), Fresh w0 w R[i].1 l[i].1 ∧ R[i].2 = l[i].2
theorem EntsF.ents {w0 w : World} {R : List (Value × Nat)} {l : List Ent} (e : EntsF w0 w R l) : Ents w.heap R l := ⟨e.len, fun i h1 h2 => ⟨(e.ok i h1 h2).1.sl, (e.ok i h1 h2).2⟩⟩
theorem EntsF.nil (w0 w : World) : EntsF w0 w [] [] := ⟨rfl, fun i h1 => by simp at h1⟩
theorem EntsF.extB {w0 w w' : World} {R : List (Value × Nat)} {l : List Ent} {b : Nat} (e : EntsF w0 w R l) (hb : b < w0.heap.size) (u : ExtB b w w') : EntsF w0 w' R l :=
  ⟨e.len, fun i h1 h2 => ⟨(e.ok i h1 h2).1.extB hb u, (e.ok i h1 h2).2⟩⟩
theorem EntsF.ext {w0 w w' : World} {R : List (Value × Nat)} {l : List Ent} (e : EntsF w0 w R l) (u : Ext w w') : EntsF w0 w' R l :=
  ⟨e.len, fun i h1 h2 => ⟨(e.ok i h1 h2).1.ext u, (e.ok i h1 h2).2⟩⟩
theorem EntsF.snoc {w0 w : World} {R : List (Value × Nat)} {l : List Ent} (e : EntsF w0 w R l) {v : Value} {p : List Nat} (f : Fresh w0 w v p) (x : Nat) : EntsF w0 w (R ++ [(v, x)]) (l ++ [(p, x)]) := by
  refine ⟨by rw [List.length_append, List.length_append, e.len]; rfl, fun i h1 h2 => ?_⟩
  rcases Nat.lt_or_ge i R.length with g | g
  · rw [List.getElem_append_left g, List.getElem_append_left (by have := e.len; omega)]
    exact e.ok i g _
  · have := e.len
    rw [List.length_append] at h1 h2
    simp only [List.length_singleton] at h1 h2
    have hi : i = R.length := by omega
    subst hi
    rw [List.getElem_append_right (Nat.le_refl _), List.getElem_append_right (by omega)]
    simp only [this, Nat.sub_self]
    exact ⟨f, rfl⟩

theorem EntF.fresh {w0 w : World} {a : Option Addr} {n cap x : Nat} {e : Ent} (f : EntF w0 w a n cap x (some e)) : Fresh w0 w (.slice a n cap) e.1 ∧ x = e.2 := by
  obtain ⟨pv, h, hf⟩ := f.ent
  simp only [Value.tuple.injEq, Array.mk.injEq, List.cons.injEq, Value.agg.injEq, Value.int.injEq] at h
  obtain ⟨⟨rfl, ⟨-, hx⟩, -⟩, -⟩ := h
  exact ⟨hf, by omega⟩

/-- rows that read as entries, each point in a block of its own kind -/
structure EntsT (h : Array Obj) (R : List (Value × Nat)) (l : List Ent) : Prop where
  len : R.length = l.length
  ok : ∀ i (h1 : i < R.length) (h2 : i < l.length), SlT h R[i].1 l[i].1 ∧ R[i].2 = l[i].2
theorem EntsF.entsT {w0 w : World} {R : List (Value × Nat)} {l : List Ent} (e : EntsF w0 w R l) : EntsT w.heap R l := ⟨e.len, fun i h1 h2 => ⟨(e.ok i h1 h2).1.slT, (e.ok i h1 h2).2⟩⟩
theorem EntsT.ents {h : Array Obj} {R : List (Value × Nat)} {l : List Ent} (e : EntsT h R l) : Ents h R l := ⟨e.len, fun i h1 h2 => ⟨(e.ok i h1 h2).1.sl, (e.ok i h1 h2).2⟩⟩
theorem EntsT.ext {h h' : Array Obj} (x : HExt h h') {R : List (Value × Nat)} {l : List Ent} (e : EntsT h R l) : EntsT h' R l := ⟨e.len, fun i h1 h2 => ⟨(e.ok i h1 h2).1.ext x, (e.ok i h1 h2).2⟩⟩
theorem EntsT.nil (h : Array Obj) : EntsT h [] [] := ⟨rfl, fun i h1 => by simp at h1⟩
theorem EntsT.append {h : Array Obj} {R S : List (Value × Nat)} {l m : List Ent} (e : EntsT h R l) (f : EntsT h S m) : EntsT h (R ++ S) (l ++ m) := by
  refine ⟨by rw [List.length_append, List.length_append, e.len, f.len], fun i h1 h2 => ?_⟩
  rcases Nat.lt_or_ge i R.length with g | g
  · rw [List.getElem_append_left g, List.getElem_append_left (by have := e.len; omega)]
    exact e.ok i g _
  · have := e.len
    rw [List.length_append] at h1 h2
    rw [List.getElem_append_right g, List.getElem_append_right (by omega)]
    have h3 := f.ok (i - R.length) (by omega) (by omega)
    simp only [this] at h3 ⊢
    exact h3
theorem SlT.grown {w w' : World} {v : Value} {p : List Nat} {row : Option Nat} {t : TypeId} (s : SlT w.heap v p) (g : w.grownBy w' row) (hr : ∀ k, row = Option.some k → ∃ cs fz, w.heap[k]? = Option.some (.cells cs t fz)) (ht : t ≠ T_u64) : SlT w'.heap v p := by
  cases s with
  | nil cap => exact .nil cap
  | some c cap _ rest hc hs =>
    refine .some c cap p rest ((g.block c (lt_of_blk hc) fun e => ?_).trans hc) hs
    obtain ⟨cs, fz, h1⟩ := hr c e.symm
    rw [hc] at h1
    cases h1
    exact ht rfl
theorem EntsT.grown {w w' : World} {R : List (Value × Nat)} {l : List Ent} {row : Option Nat} {t : TypeId} (e : EntsT w.heap R l) (g : w.grownBy w' row) (hr : ∀ k, row = some k → ∃ cs fz, w.heap[k]? = some (.cells cs t fz)) (ht : t ≠ T_u64) : EntsT w'.heap R l :=
  ⟨e.len, fun i h1 h2 => ⟨(e.ok i h1 h2).1.grown g hr ht, (e.ok i h1 h2).2⟩⟩
theorem own_type {w : World} {base : Nat} {e : TypeId} {size : Nat} {v : Value} {n : Nat} {xs : List Value} (h : w.ownsRow base e size v n xs) : ∀ k, v.ownBlock = some k → ∃ cs fz, w.heap[k]? = some (.cells cs e fz) := by
  intro k hk
  rcases h.2 with ⟨rfl, _⟩ | ⟨g, cap, cur, rfl, hb, hg, _⟩
  · cases hk
  · cases hk
    exact ⟨_, _, hg⟩

/-- some in a row -/
def rangeL (l : List Ent) (lo hi : Int) : List Ent := (l.take hi.toNat).drop lo.toNat

theorem zeros_ent (m : Nat) : (List.replicate m [Value.slice none 0 0, U 0]).flatten = (List.replicate m (Value.slice none 0 0, 0)).flatMap entV := by
  induction m with
  | zero => rfl
  | succ m ih => rw [List.replicate_succ, List.flatten_cons, ih, List.replicate_succ, List.flatMap_cons]; rfl

set_option maxHeartbeats 1000000 in
theorem range_spec {k tb : Nat} {l : List Ent} {w : World} (tr : TreeRep w.heap tb k l) (hl : l.length ≤ 100000) (lo hi : Int) :
    CallK Try.prog F_rank_Range [ptr tb, I lo, I hi] (fun r w' => Ext w w' ∧ ∃ v, r = .tuple #[v, I 0] ∧ ∃ R, Rw w'.heap v R.length (R.flatMap entV) ∧ EntsT w'.heap R (rangeL l lo hi)) w := by
  refine e_rank_Range rfl ?_
  refine nm (v := max lo 0) (by rw [Int.max_def]; split <;> split <;> omega) ?_
  refine cl (tree_len_spec tr (by omega)) ?_
  rintro _ w1 ⟨hx1, rfl⟩
  refine nm (v := min hi l.length) (by rw [Int.min_def]; split <;> split <;> omega) ?_
  refine ts (fun g => ?_) (fun g => ?_)
  · refine ⟨hx1, _, rfl, ?_⟩
    have : rangeL l lo hi = [] := by
      unfold rangeL
      rw [List.drop_eq_nil_of_le]
      rw [List.length_take]
      omega
    rw [this]
    exact ⟨[], .nil _ _, EntsT.nil _⟩
  obtain ⟨a, ha⟩ : ∃ a : Nat, max lo 0 = a := ⟨(max lo 0).toNat, by omega⟩
  obtain ⟨c, hc⟩ : ∃ c : Nat, min hi l.length = c := ⟨(min hi l.length).toNat, by omega⟩
  have hcl : c ≤ l.length := by omega
  have hac : a < c := by omega
  have hrow : rangeL l lo hi = (l.drop a).take (c - a) := by
    unfold rangeL
    rw [show lo.toNat = a by omega, List.drop_take]
    rcases Nat.lt_or_ge hi.toNat l.length with g2 | g2
    · rw [show hi.toNat = c by omega]
    · rw [List.take_of_length_le (by rw [List.length_drop]; omega), List.take_of_length_le (by rw [List.length_drop]; omega)]
  rw [hrow, ha, hc]
  refine cl (cursor_new_spec (tr.ext hx1.1)) ?_
  rintro _ w2 ⟨hx2, b, rfl, hb, hbl, hcur⟩
  have x02 : Ext w w2 := hx1.trans hx2
  refine cl (tree_root_h tr x02.1) ?_
  rintro _ _ ⟨rfl, o, n, rfl, ho⟩
  refine cl (nth_o_spec ho x02.1 hl (i := a) (by omega)) ?_
  rintro _ w3 ⟨hx3, va, vn, vcap, vx, rfl, hent⟩
  obtain ⟨hfr, -⟩ := hent.fresh
  have x03 : Ext w w3 := x02.trans hx3
  have hsb : w.heap.size ≤ b := Nat.le_trans hx1.1.1 hb
  refine cl (cursor_seek_spec tr x03.1 (hcur.ext hx3) hsb hfr.sl (tr.ok _ (List.getElem_mem (by omega))).1 (idxOf_at tr.srt (by omega))) ?_
  rintro _ w4 ⟨hx4, rfl, hcur4⟩
  have x04 : Ext w w4 := x03.transB hsb hx4
  refine nm (v := ((c - a : Nat) : Int)) (wr64 (by omega) (by omega) (by omega)) ?_
  refine mk tt_ok rfl rfl rfl (by decide) rfl rfl rfl (by show 32 * _ ≤ _; omega) (by omega) ?_
  intro ob w5 hob hx5 hsz5 hblk5
  have hblk5' : w5.heap[ob]? = some (.cells ((List.replicate (c - a) (Value.slice none 0 0, 0)).flatMap entV).toArray T_ent (0, 0)) := by
    rw [← zeros_ent]; exact hblk5
  have hb4 : b < w4.heap.size := by have := hx3.1.1; have := hx4.1.1; omega
  have hb5 : b < w5.heap.size := by have := hx3.1.1; have := hx4.1.1; have := hx5.1.1; omega
  have x05 : Ext w w5 := x04.trans hx5
  refine lp (fun j : Nat => [(8, ptr b), (9, .slice (some ⟨ob, 0, none⟩) (c - a) (c - a)), (36, I (c - a : Nat)), (37, I j)])
    (fun j w' => Ext w w' ∧ w5.heap.size ≤ w'.heap.size ∧ Cur w' b tb l (a + j) ∧ j ≤ c - a ∧ ∃ R : List (Value × Nat), R.length = c - a ∧ w'.heap[ob]? = some (.cells (R.flatMap entV).toArray T_ent (0, 0)) ∧ EntsF w5 w' (R.take j) ((l.drop a).take j)) (fun j => c - a - j) 0
    ⟨rfl, rfl, rfl, rfl, trivial⟩ ⟨x05, Nat.le_refl _, hcur4.ext hx5, Nat.zero_le _, _, by simp, hblk5', by rw [List.take_zero, List.take_zero]; exact .nil _ _⟩ ?_
  rintro j e w6 ⟨x06, hs6, hcur6, hj, R, hR, hblk6, hents⟩
  rcases Nat.lt_or_ge j (c - a) with h | h
  · refine tsT (show (j : Int) < ((c - a : Nat) : Int) by omega) ?_
    refine cl (cursor_next_spec tr x06.1 hcur6 hsb) ?_
    rintro _ w7 ⟨hx7, ⟨pa, pn, pcap, x, rfl, hent7⟩, hcur7⟩
    rw [if_pos (show a + j < l.length by omega)] at hcur7
    rw [List.getElem?_eq_getElem (show a + j < l.length by omega)] at hent7
    obtain ⟨hfr7, rfl⟩ := hent7.fresh
    have hobb : ob ≠ b := by omega
    have hb7 := hx7.blk hobb hblk6
    refine ix rfl h ?_
    refine st hb7 rfl ?_ rfl ?_
    · rw [flat_len entV_len, hR]
      exact Nat.ble_eq_true_of_le (show 0 + j * 2 + 2 ≤ _ by omega)
    intro w8 u8
    have hset : setL (R.flatMap entV) (0 + j * 2) [.slice pa pn pcap, U (l[a + j]'(by omega)).2] = (R.set j (.slice pa pn pcap, (l[a + j]'(by omega)).2)).flatMap entV := by
      rw [Nat.zero_add]
      exact flat_set entV_len R j (by omega) (Value.slice pa pn pcap, (l[a + j]'(by omega)).2)
    have h8 : w8.heap[ob]? = some (.cells ((R.set j (.slice pa pn pcap, (l[a + j]'(by omega)).2)).flatMap entV).toArray T_ent (0, 0)) := by
      rw [← hset]; exact u8.new
    have hob5 : ob < w5.heap.size := by omega
    have hob0 : w.heap.size ≤ ob := by have := x04.1.1; omega
    refine nm (inc64 (by omega)) ?_
    refine ⟨j + 1, ⟨⟨rfl, rfl, rfl, rfl, trivial⟩, (x06.transB hsb hx7).upd hob0 u8, by have := hx7.1.1; have := u8.1; omega, ?_, h, _, by rw [List.length_set]; exact hR, h8, ?_⟩, by omega⟩
    · exact hcur7.extB hb7 (by decide) (by decide) u8.toB
    · have e1 : (R.set j (Value.slice pa pn pcap, (l[a + j]'(by omega)).2)).take (j + 1) = R.take j ++ [(.slice pa pn pcap, (l[a + j]'(by omega)).2)] := by
        rw [List.take_succ_eq_append_getElem (by rw [List.length_set]; omega), List.getElem_set_self, List.take_set_of_le (Nat.le_refl _)]
      have e2 : (l.drop a).take (j + 1) = (l.drop a).take j ++ [((l[a + j]'(by omega)).1, (l[a + j]'(by omega)).2)] := by
        rw [List.take_succ_eq_append_getElem (by rw [List.length_drop]; omega), List.getElem_drop]
      rw [e1, e2]
      exact ((hents.extB hb5 hx7).snoc (hfr7.old hs6) _).extB hob5 u8.toB
  · have hj' : j = c - a := by omega
    subst hj'
    refine tsF (show ¬ ((c - a : Nat) : Int) < ((c - a : Nat) : Int) by omega) ?_
    refine ⟨x06, _, rfl, R, ?_, ?_⟩
    · rw [hR]; exact .ofBlk' hblk6
    · have := hents.entsT
      rwa [← hR, List.take_length, hR] at this

end Go.Proofs.Ytlpndcfkjkbeoaa

namespace Go.Proofs.Ytlpndcfkjkbeoaa
open Go Go.Pan

/-! ### what Put and Del make, as lists -/

def putE (q : List Nat) (x : Nat) (l : List Ent) : List Ent := l.filter (fun e => decide (Z e.1 < Z q)) ++ (q, x) :: l.filter (fun e => decide (Z q < Z e.1))
def delE (q : List Nat) (l : List Ent) : List Ent := l.filter (fun e => decide (e.1 ≠ q))

theorem putE_put {q : List Nat} {x : Nat} {l : List Ent} (hq : small 64 q) (hl : ∀ e ∈ l, e.1.length = q.length ∧ small 64 e.1) : PutL [(q, x)] q l (putE q x l) := fun e => by
  unfold putE
  simp only [List.mem_append, List.mem_filter, List.mem_cons, decide_eq_true_eq, List.mem_singleton]
  constructor
  · rintro (⟨h1, h2⟩ | h | ⟨h1, h2⟩)
    · exact .inr ⟨h1, fun e => by rw [e] at h2; exact Nat.lt_irrefl _ h2⟩
    · exact .inl (.inl h)
    · exact .inr ⟨h1, fun e => by rw [e] at h2; exact Nat.lt_irrefl _ h2⟩
  · rintro ((h | h) | ⟨h1, h2⟩)
    · exact .inr (.inl h)
    · cases h
    · have hz : Z e.1 ≠ Z q := fun h => h2 ((Z_inj (hl e h1).1 (hl e h1).2 hq).1 h)
      rcases Nat.lt_or_gt_of_ne hz with g | g
      · exact .inl ⟨h1, g⟩
      · exact .inr (.inr ⟨h1, g⟩)
theorem putE_srt {q : List Nat} {x : Nat} {l : List Ent} (hs : Srt l) : Srt (putE q x l) := by
  unfold putE
  refine List.pairwise_append.2 ⟨hs.filter _, List.pairwise_cons.2 ⟨fun e he => ?_, hs.filter _⟩, fun a ha b hb => ?_⟩
  · have := (List.mem_filter.1 he).2
    simpa using this
  · have h1 : Z a.1 < Z q := by simpa using (List.mem_filter.1 ha).2
    rcases List.mem_cons.1 hb with rfl | hb
    · exact h1
    · have h2 : Z q < Z b.1 := by simpa using (List.mem_filter.1 hb).2
      omega
theorem delE_put {q : List Nat} {l : List Ent} : PutL [] q l (delE q l) := fun e => by
  unfold delE
  simp
theorem delE_srt {q : List Nat} {l : List Ent} (hs : Srt l) : Srt (delE q l) := hs.filter _

theorem put_as {k b : Nat} {l : List Ent} {w : World} {u : Value} {q : List Nat} (tr : TreeRep w.heap b k l) (t : Sl w.heap u q) (hq : q.length = k) {x : Nat} (hx : x < 2 ^ 64) :
    CallK Try.prog F_tree_Tree_Put [ptr b, u, U x] (fun r w' => Ext w w' ∧ ∃ b', r = .tuple #[ptr b', I 0] ∧ TreeRep w'.heap b' k (putE q x l)) w := by
  have hok : ∀ e ∈ l, e.1.length = q.length ∧ small 64 e.1 := fun e he => ⟨by rw [hq, (tr.ok e he).1], (tr.ok e he).2.1⟩
  refine (tree_put_spec tr t hq hx).mono fun r w' ⟨h1, h2⟩ => ⟨h1, ?_⟩
  rcases h2 with ⟨rfl, h⟩ | ⟨b', l', rfl, -, -, tr', hp⟩
  · refine ⟨b, rfl, ?_⟩
    rw [← putL_ext (putL_self tr.srt h) (putE_put t.small hok) tr.srt (putE_srt tr.srt)]
    exact tr.ext h1.1
  · refine ⟨b', rfl, ?_⟩
    rw [← putL_ext hp (putE_put t.small hok) tr'.srt (putE_srt tr.srt)]
    exact tr'

theorem sl_two {h : Array Obj} {b x y : Nat} (hb : h[b]? = some (.cells #[U x, U y] T_u64 (0, 0))) (hx : x < 2 ^ 64) (hy : y < 2 ^ 64) : Sl h (.slice (some ⟨b, 0, none⟩) 2 2) [x, y] :=
  Sl.ofBlk (p := [x, y]) (rest := []) hb (by simp; omega)

theorem awake10_spec (w : World) : CallK Try.prog F_law10_awake [] (fun r w' => Ext w w' ∧ r = .bool true) w := by
  refine e_law10_awake rfl ?_
  refine cl (tree_new_spec (k := 2) (by decide) (by decide) w) ?_
  rintro _ w1 ⟨hx1, b1, rfl, -, t1⟩
  refine ⟨rfl, rfl, by decide, al ?_⟩
  intro n2 w2 hn2 hx2 hsz2 hb2
  refine cl (put_as (t1.ext hx2.1) (sl_two hb2 (by decide) (by decide)) rfl (x := 1) (by decide)) ?_
  rintro _ w3 ⟨hx3, b3, rfl, t3⟩
  refine ⟨rfl, rfl, by decide, al ?_⟩
  intro n4 w4 hn4 hx4 hsz4 hb4
  refine cl (put_as (t3.ext hx4.1) (sl_two hb4 (by decide) (by decide)) rfl (x := 2) (by decide)) ?_
  rintro _ w5 ⟨hx5, b5, rfl, t5⟩
  refine ⟨rfl, rfl, by decide, al ?_⟩
  intro n6 w6 hn6 hx6 hsz6 hb6
  refine cl (put_as (t5.ext hx6.1) (sl_two hb6 (by decide) (by decide)) rfl (x := 3) (by decide)) ?_
  rintro _ w7 ⟨hx7, b7, rfl, t7⟩
  refine ⟨rfl, rfl, by decide, al ?_⟩
  intro n8 w8 hn8 hx8 hsz8 hb8
  have hlen : (putE [4, 0] 3 (putE [0, 8] 2 (putE [7, 3] 1 []))).length = 3 := by decide +kernel
  have hlt : ltN [7, 7] (putE [4, 0] 3 (putE [0, 8] 2 (putE [7, 3] 1 []))) = 2 := by decide +kernel
  refine cl (rank_of_spec (t7.ext hx8.1) (by rw [hlen]; decide) (sl_two hb8 (by decide) (by decide)) rfl) ?_
  rintro _ w9 ⟨hx9, rfl⟩
  rw [hlt]
  refine tsT rfl ?_
  refine tsT rfl ?_
  exact ⟨((((((((hx1.trans hx2).trans hx3).trans hx4).trans hx5).trans hx6).trans hx7).trans hx8).trans hx9), rfl⟩

end Go.Proofs.Ytlpndcfkjkbeoaa

namespace Go.Proofs.Ytlpndcfkjkbeoaa
open Go Go.Pan

theorem EntS.blk {h : Array Obj} {v : Value} {l : List Ent} (e : EntS h v l) : ∃ b o cap, v = .slice (some ⟨b, o, none⟩) l.length cap := by
  obtain ⟨b, o, cap, R, h1, -⟩ := e
  exact ⟨b, o, cap, h1⟩

theorem range_row {k tb : Nat} {l : List Ent} {w : World} (tr : TreeRep w.heap tb k l) (hl : l.length ≤ 100000) (lo hi : Int) (hne : 0 < (rangeL l lo hi).length) :
    CallK Try.prog F_rank_Range [ptr tb, I lo, I hi] (fun r w' => Ext w w' ∧ ∃ b o cap R, r = .tuple #[.slice (some ⟨b, o, none⟩) R.length cap, I 0] ∧ celsAt w'.heap ⟨b, o, none⟩ (R.flatMap entV) ∧ EntsT w'.heap R (rangeL l lo hi)) w := by
  refine (range_spec tr hl lo hi).mono fun r w' ⟨h1, v, h2, R, h3, h4⟩ => ?_
  subst h2
  obtain ⟨a, cap, rfl⟩ := h3.form
  obtain ⟨b, o, rfl, h5⟩ := h3.place (by rw [h4.len]; exact hne)
  exact ⟨h1, b, o, cap, R, rfl, h5, h4⟩

set_option maxHeartbeats 1000000 in
theorem rankRows_law {k n : Int} {v : Value} {acts : List Act} {w : World} (s : ActL w.heap v acts) (hl : acts.length ≤ 9223372036854775807) :
    CallK Try.prog F_law10_RankRows [I k, v, I n] (fun r w' => Ext w w' ∧ r = .bool true) w := by
  obtain ⟨va, vcap, rfl⟩ := s.form
  refine e_law10_RankRows rfl ?_
  refine cl (awake10_spec w) ?_
  rintro _ w1 ⟨hx1, rfl⟩
  refine cl (heavy_spec (s.ext hx1.1) hl 50) ?_
  rintro _ _ ⟨rfl, t, rfl, ht⟩
  cases t with
  | true => exact ⟨hx1, rfl⟩
  | false =>
    refine ts (fun g1 => ⟨hx1, rfl⟩) (fun g1 => ?_)
    refine ts (fun g2 => ⟨hx1, rfl⟩) (fun g2 => ?_)
    refine ts (fun g3 => ⟨hx1, rfl⟩) (fun g3 => ?_)
    refine ts (fun g4 => ⟨hx1, rfl⟩) (fun g4 => ?_)
    obtain ⟨k, rfl⟩ : ∃ i : Nat, k = i := ⟨k.toNat, by omega⟩
    obtain ⟨n, rfl⟩ : ∃ i : Nat, n = i := ⟨n.toNat, by omega⟩
    have hal := (ht rfl).1
    refine cl (grown_row (by omega) (by omega) (s.ext hx1.1) (by omega)) ?_
    rintro _ w2 ⟨hx2, tb, eb, eo, ecap, l, rfl, tr, hen, hle⟩
    have hx02 : Ext w w2 := hx1.trans hx2
    refine ⟨rfl, rfl, by decide, al ?_⟩
    intro nb w3 hnb hx3 hsz3 hblk3
    refine lp (fun s : Nat × Value => [(2, I n), (7, ptr tb), (8, .slice (some ⟨eb, eo, none⟩) l.length ecap), (10, s.2), (11, I s.1)])
      (fun s w' => Ext w2 w' ∧ s.1 < l.length + n ∧ ∃ R, w'.ownsRow w2.heap.size T_ent 2 s.2 (l.take s.1).length (R.flatMap entV) ∧ EntsT w'.heap R (l.take s.1)) (fun s => l.length + n - s.1) (0, .slice (some ⟨nb, 0, none⟩) 0 0) ⟨rfl, rfl, rfl, rfl, rfl, trivial⟩
      ⟨hx3, by simp only; omega, [], by rw [List.take_zero]; exact own_new (by omega) hblk3, by rw [List.take_zero]; exact EntsT.nil _⟩ ?_
    rintro ⟨c, av⟩ e w4 ⟨hx4, hc, R, hown, hR⟩
    simp only at hc hown hR
    rcases Nat.lt_or_ge c l.length with h | h
    · refine tsT (show (c : Int) < (l.length : Nat) by omega) ?_
      refine nm (v := ((c + n : Nat) : Int)) (wr64 (by simp) (by omega) (by omega)) ?_
      have hrl : (rangeL l (c : Int) ((c + n : Nat) : Int)).length = min n (l.length - c) := by
        show ((l.take (c + n)).drop c).length = _
        rw [List.length_drop, List.length_take]; omega
      refine cl (range_row (tr.ext hx4.1) (by omega) (c : Int) ((c + n : Nat) : Int) (by omega)) ?_
      rintro _ w5 ⟨hx5, rb, ro, rcap, rR, rfl, hrc, hrE⟩
      rw [show rangeL l (c : Int) ((c + n : Nat) : Int) = (l.take (c + n)).drop c from rfl] at hrE hrl
      have hrRl : rR.length = min n (l.length - c) := by rw [hrE.len, hrl]
      refine tsT rfl ?_
      refine tsF (by omega) ?_
      refine tsF (by omega) ?_
      obtain ⟨hsl0, hv0⟩ := hrE.ents.ok 0 (by omega) (by omega)
      have h00 : ((l.take (c + n)).drop c)[0]'(by omega) = l[c] := by rw [List.getElem_drop, List.getElem_take]; rfl
      rw [h00] at hsl0
      refine ix (j := 0) rfl (by omega) ?_
      refine ⟨by decide, ld (v := rR[0].1) ?_ ?_⟩
      · have := hrc.get (j := 0 * 2 + 0) (v := rR[0].1) (by rw [flat_get entV_len rR 0 0 (by omega) (by decide)]; rfl)
        exact this
      have hx25 : Ext w2 w5 := hx4.trans hx5
      have hro := rank_of_spec (tr.ext hx25.1) (by omega) hsl0 (tr.ok _ (List.getElem_mem h)).1
      rw [(idxOf_ltN tr.srt l[c].1).uniq (idxOf_at tr.srt h)] at hro
      refine cl hro ?_
      rintro _ w6 ⟨hx6, rfl⟩
      refine tsT rfl ?_
      refine tsT rfl ?_
      have hx46 : Ext w4 w6 := hx5.trans hx6
      refine app tt_ok rfl rfl rfl rfl (by decide) rfl rfl (own_keep hown hx46) rfl (news := rR.flatMap entV) (by rw [flat_len entV_len]) (hx6.1.cels hrc) hrE.ents.flat (by rw [List.length_take]; omega) (by decide) (by have := hx25.1.1; have := hx6.1.1; omega) ?_
      intro v' w7 ho7 hg7 hn7
      have hx27 : Ext w2 w7 := (hx25.trans hx6).grown hg7 (own_row (own_keep hown hx46))
      have e1 : l.take (c + n) = l.take c ++ (l.take (c + n)).drop c := by
        conv => lhs; rw [← List.take_append_drop c (l.take (c + n)), List.take_take, Nat.min_eq_left (by omega)]
      refine nm (v := ((c + n : Nat) : Int)) (wr64 (by simp) (by omega) (by omega)) ?_
      refine ⟨(c + n, v'), ⟨⟨rfl, rfl, rfl, rfl, rfl, trivial⟩, hx27, by simp only; omega, R ++ rR, ?_, ?_⟩, by simp only; omega⟩
      · simp only
        rw [e1, List.length_append, ← hrE.len, List.flatMap_append]
        exact ho7
      · simp only
        rw [e1]
        have hty := own_type (own_keep hown hx46)
        exact ((hR.ext hx46.1).grown hg7 hty (by decide)).append ((hrE.ext hx6.1).grown hg7 hty (by decide))
    · refine tsF (show ¬ (c : Int) < (l.length : Nat) by omega) ?_
      have hR2 := own_rw hown
      rw [List.take_of_length_le h] at hR hR2
      have hRl := hR.len
      refine cl (same_entries_spec (l := l) (m := l) ⟨R, by rw [hRl]; exact hR2, hR.ents⟩ (hen.toL.ext hx4.1) (by omega) (fun e he => by have := (tr.ok e he).1; omega)) ?_
      rintro _ w5 ⟨hx5, rfl⟩
      rw [decide_eq_true rfl]
      exact ⟨(hx02.trans hx4).trans hx5, rfl⟩

end Go.Proofs.Ytlpndcfkjkbeoaa

namespace Go.Proofs.Ytlpndcfkjkbeoaa
open Go Go.Pan

/-! ### the document's From (layer 8), Range (layer 10); rank.Nth -/

theorem cmp_lt_nat {a b : Nat} : (if a < b then (-1 : Int) else if b < a then 1 else 0) < 0 ↔ a < b := by
  split
  · simp; assumption
  · split <;> simp <;> omega
theorem cmpZ_lt {p q : List Nat} : cmpZ p q < 0 ↔ Z p < Z q := cmp_lt_nat

theorem ref_from_spec {v u : Value} {l : List Ent} {q : List Nat} {w : World} (e : EntL w.heap v l) (t : Sl w.heap u q) (hs : Srt l) (hl : ∀ e ∈ l, e.1.length = q.length ∧ small 64 e.1) (hq : q.length ≤ 16) (hn : l.length ≤ 100000) :
    CallK Try.prog F_ref08_From [v, u] (fun r w' => w = w' ∧ ∃ i : Nat, r = I i ∧ IdxOf l q i) w := by
  obtain ⟨a, cap, rfl⟩ := e.form
  refine e_ref08_From rfl ?_
  refine lp (fun j : Nat => [(0, .slice a l.length cap), (1, u), (5, I j)]) (fun j w' => w = w' ∧ j ≤ l.length ∧ ∀ i (h : i < l.length), i < j → Z l[i].1 < Z q) (fun j => l.length - j) 0 ⟨rfl, rfl, rfl, trivial⟩ ⟨rfl, Nat.zero_le _, fun i _ h => absurd h (Nat.not_lt_zero _)⟩ ?_
  rintro j e0 _ ⟨rfl, hj, hlo⟩
  rcases Nat.lt_or_ge j l.length with hj' | hj'
  · obtain ⟨b, o, pv, rfl, hc1, hc2, hsl⟩ := e.place hj'
    have hlj := hl _ (List.getElem_mem hj')
    refine tsT (by omega) ?_
    refine ix rfl hj' ?_
    refine ⟨by decide, ld (v := pv) hc1 ?_⟩
    refine cl (ref_cmp_spec hsl t hlj.1 (by omega)) ?_
    rintro _ _ ⟨rfl, rfl⟩
    refine ts (fun g => ?_) (fun g => ?_)
    · refine nm (inc64 (by omega)) ?_
      refine ⟨j + 1, ⟨⟨rfl, rfl, rfl, trivial⟩, rfl, hj', fun i h hi => ?_⟩, by omega⟩
      rcases Nat.eq_or_lt_of_le (show i ≤ j by omega) with g2 | g2
      · subst g2; exact cmpZ_lt.1 g
      · exact hlo i h g2
    · refine ⟨rfl, j, rfl, ⟨hj, hlo, fun i h hi => ?_⟩⟩
      have hge : Z q ≤ Z l[j].1 := Nat.le_of_not_lt fun h => g (cmpZ_lt.2 h)
      exact Nat.le_trans hge (srt_le hs h hi)
  · have : j = l.length := by omega
    subst this
    refine tsF (by omega) ?_
    exact ⟨rfl, l.length, rfl, ⟨Nat.le_refl _, hlo, fun i h hi => by omega⟩⟩

theorem ref_range_spec {v : Value} {l : List Ent} {w : World} (e : EntL w.heap v l) (hn : l.length ≤ 100000) (lo hi : Int) :
    CallK Try.prog F_ref10_Range [v, I lo, I hi] (fun r w' => Ext w w' ∧ ∃ a cap, r = .slice a (rangeL l lo hi).length cap ∧ EntL w'.heap (.slice a (rangeL l lo hi).length cap) (rangeL l lo hi)) w := by
  obtain ⟨R, hr, he⟩ := e
  have hRl := he.len
  obtain ⟨a, cap, rfl⟩ := hr.form
  refine e_ref10_Range rfl ?_
  refine ⟨rfl, rfl, by decide, al ?_⟩
  intro nb w1 hnb hx1 hsz1 hblk1
  refine lp (fun s : Nat × Value => [(0, .slice a R.length cap), (1, I lo), (2, I hi), (7, s.2), (8, I s.1)])
    (fun s w' => Ext w w' ∧ s.1 ≤ R.length ∧ w'.ownsRow w.heap.size T_ent 2 s.2 ((R.take (min s.1 hi.toNat)).drop lo.toNat).length (((R.take (min s.1 hi.toNat)).drop lo.toNat).flatMap entV)) (fun s => R.length - s.1)
    (0, .slice (some ⟨nb, 0, none⟩) 0 0) ⟨rfl, rfl, rfl, rfl, rfl, trivial⟩ ⟨hx1, Nat.zero_le _, by rw [Nat.zero_min, List.take_zero, List.drop_nil]; exact own_new (by omega) hblk1⟩ ?_
  rintro ⟨j, v⟩ e0 w2 ⟨hx2, hj, hown⟩
  simp only at hj hown
  rcases Nat.lt_or_ge j R.length with h | h
  · obtain ⟨b, o, rfl, hcs⟩ := hr.place (by omega)
    refine tsT (show (j : Int) < (R.length : Nat) by omega) ?_
    have skip : ¬ (lo ≤ j ∧ (j : Int) < hi) → (R.take (min (j + 1) hi.toNat)).drop lo.toNat = (R.take (min j hi.toNat)).drop lo.toNat := fun g => by
      by_cases hlo : lo ≤ j
      · have : ¬ (j : Int) < hi := fun h => g ⟨hlo, h⟩
        rw [show min (j + 1) hi.toNat = min j hi.toNat by omega]
      · rw [List.drop_eq_nil_of_le (by rw [List.length_take]; omega), List.drop_eq_nil_of_le (by rw [List.length_take]; omega)]
    refine ts (fun g1 => ?_) (fun g1 => ?_)
    · refine ts (fun g2 => ?_) (fun g2 => ?_)
      · refine ix rfl h ?_
        have hel : celsAt w2.heap ⟨b, o + j * 2, none⟩ (entV R[j]) := (hx2.1.cels hcs).sub (flat_elem entV_len R j h)
        obtain ⟨⟨pa, pcap, hpf⟩, hpv⟩ := (show (∃ a cap, R[j].1 = .slice a (l[j]'(by omega)).1.length cap) ∧ True from ⟨(he.ok j h (by omega)).1.form, trivial⟩)
        refine ldC (cs := entV R[j]) hel rfl ?_
        refine ⟨rfl, rfl, by decide, ?_⟩
        have hent : entV R[j] = [.slice pa (l[j]'(by omega)).1.length pcap, U R[j].2] := by unfold entV; rw [hpf]
        refine al ?_
        intro nc w3 hnc hx3 hsz3 hblk3
        have hblk3' : w3.heap[nc]? = some (.cells (entV R[j]).toArray T_ent (0, 0)) := hblk3
        refine app tt_ok rfl rfl rfl rfl (by decide) rfl rfl (own_keep hown hx3) rfl (news := entV R[j]) rfl (celsAt_blk (o := 0) hblk3' rfl) (by rw [hent]; rfl) (by rw [List.length_drop, List.length_take]; omega) (by decide) (by have := (hx2.trans hx3).1.1; omega) ?_
        intro v' w4 ho4 hg4 hn4
        refine nm (inc64 (by omega)) ?_
        have e1 : (R.take (min (j + 1) hi.toNat)).drop lo.toNat = (R.take (min j hi.toNat)).drop lo.toNat ++ [R[j]] := by
          rw [show min (j + 1) hi.toNat = j + 1 by omega, show min j hi.toNat = j by omega, take_snoc R j h, List.drop_append_of_le_length (by rw [List.length_take]; omega)]
        refine ⟨(j + 1, v'), ⟨⟨rfl, rfl, rfl, rfl, rfl, trivial⟩, (hx2.trans hx3).grown hg4 (own_row (own_keep hown hx3)), h, ?_⟩, by simp only; omega⟩
        simp only
        rw [e1, List.length_append, List.flatMap_append, List.flatMap_singleton]
        exact ho4
      · refine nm (inc64 (by omega)) ?_
        refine ⟨(j + 1, v), ⟨⟨rfl, rfl, rfl, rfl, rfl, trivial⟩, hx2, h, ?_⟩, by simp only; omega⟩
        simp only
        rw [skip (fun g => g2 g.2)]
        exact hown
    · refine nm (inc64 (by omega)) ?_
      refine ⟨(j + 1, v), ⟨⟨rfl, rfl, rfl, rfl, rfl, trivial⟩, hx2, h, ?_⟩, by simp only; omega⟩
      simp only
      rw [skip (fun g => g1 g.1)]
      exact hown
  · have hjR : j = R.length := by omega
    subst hjR
    refine tsF (show ¬ ((R.length : Nat) : Int) < (R.length : Nat) by omega) ?_
    have e1 : (R.take (min R.length hi.toNat)).drop lo.toNat = (R.take hi.toNat).drop lo.toNat := by
      congr 1
      rcases Nat.lt_or_ge R.length hi.toNat with g | g
      · rw [Nat.min_eq_left (by omega), List.take_length, List.take_of_length_le (by omega)]
      · rw [Nat.min_eq_right g]
    rw [e1] at hown
    have hE := ((he.take hi.toNat).drop lo.toNat).ext hx2.1
    have hlen := hE.len
    obtain ⟨a2, cap2, hv⟩ := (own_rw hown).form
    refine ⟨hx2, a2, cap2, ?_, ?_⟩
    · show v = _
      rw [hv, hlen]; rfl
    · have hrw := own_rw hown
      rw [hv, hlen] at hrw
      exact ⟨_, by rw [hlen]; exact hrw, hE⟩

/-- the place of an entry by a number that may be none -/
def atI (l : List Ent) (i : Int) : Option Ent := if i < 0 then none else l[i.toNat]?

theorem rank_nth_spec {k tb : Nat} {l : List Ent} {w : World} (tr : TreeRep w.heap tb k l) (hl : l.length ≤ 100000) (i : Int) :
    CallK Try.prog F_rank_Nth [ptr tb, I i] (fun r w' => Ext w w' ∧ ∃ a n cap x, r = .tuple #[.agg #[.slice a n cap, U x], .bool (atI l i).isSome, I 0] ∧ EntF w w' a n cap x (atI l i)) w := by
  refine e_rank_Nth rfl ?_
  refine al ?_
  intro nb w1 hnb hx1 hsz1 hblk1
  have hb1 : w1.heap[nb]? = some (.cells #[.slice none 0 0, U 0] T_api_Entry (0, 0)) := hblk1
  refine ts (fun g => ?_) (fun g => ?_)
  · have hn : atI l i = none := if_pos g
    refine st hb1 rfl rfl rfl ?_
    intro w2 u2
    have h2 : w2.heap[nb]? = some (.cells #[.slice none 0 0, U 0] T_api_Entry (0, 0)) := u2.new
    refine ldC (cs := [.slice none 0 0, U 0]) (celsAt_blk (o := 0) h2 rfl) rfl ?_
    rw [hn]
    exact ⟨hx1.upd (by omega) u2, none, 0, 0, 0, rfl, ⟨rfl⟩⟩
  refine cl (tree_len_spec (tr.ext hx1.1) (by omega)) ?_
  rintro _ w2 ⟨hx2, rfl⟩
  have hx12 := hx1.trans hx2
  refine ts (fun g2 => ?_) (fun g2 => ?_)
  · have hn : atI l i = none := by
      unfold atI
      rw [if_neg g, List.getElem?_eq_none (by omega)]
    refine st (hx2.blk hb1) rfl rfl rfl ?_
    intro w3 u3
    have h3 : w3.heap[nb]? = some (.cells #[.slice none 0 0, U 0] T_api_Entry (0, 0)) := u3.new
    refine ldC (cs := [.slice none 0 0, U 0]) (celsAt_blk (o := 0) h3 rfl) rfl ?_
    rw [hn]
    exact ⟨hx12.upd (by omega) u3, none, 0, 0, 0, rfl, ⟨rfl⟩⟩
  · obtain ⟨i, rfl⟩ : ∃ j : Nat, i = j := ⟨i.toNat, by omega⟩
    have hi : i < l.length := by omega
    have hn : atI l (i : Int) = some l[i] := by
      unfold atI
      rw [if_neg g, Int.toNat_natCast, List.getElem?_eq_getElem hi]
    refine cl (tree_root_h tr hx12.1) ?_
    rintro _ _ ⟨rfl, o, n, rfl, ho⟩
    refine cl (nth_o_spec ho hx12.1 hl hi) ?_
    rintro _ w3 ⟨hx3, va, vn, vcap, vx, rfl, hent⟩
    have hent' := hent.old (show w1.heap.size ≤ w2.heap.size from hx2.1.1)
    refine st ((hx2.trans hx3).blk hb1) rfl rfl rfl ?_
    intro w4 u4
    have h4 : w4.heap[nb]? = some (.cells #[.slice va vn vcap, U vx] T_api_Entry (0, 0)) := u4.new
    refine ldC (cs := [.slice va vn vcap, U vx]) (celsAt_blk (o := 0) h4 rfl) rfl ?_
    rw [hn]
    exact ⟨(hx12.trans hx3).upd (by omega) u4, va, vn, vcap, vx, rfl, (hent'.upd (by omega) u4).old hx1.1.1⟩

end Go.Proofs.Ytlpndcfkjkbeoaa

namespace Go.Proofs.Ytlpndcfkjkbeoaa
open Go Go.Pan

theorem sub_ex {b o cap i j esz : Nat} {f g : Int} (hf : f = i) (hg : g = j) (h : i < cap) : (Value.slice (if cap = f.toNat then some ⟨b, o, none⟩ else (some (⟨b, o, none⟩ : Addr)).map (·.add (f.toNat * esz))) (g.toNat - f.toNat) (cap - f.toNat)) = .slice (some ⟨b, o + i * esz, none⟩) (j - i) (cap - i) := by
  subst hf hg
  rw [Int.toNat_natCast, Int.toNat_natCast, if_neg (by omega), Option.map_some, add_off]

theorem range_form {k tb : Nat} {l : List Ent} {w : World} (tr : TreeRep w.heap tb k l) (hl : l.length ≤ 100000) (lo hi : Int) :
    CallK Try.prog F_rank_Range [ptr tb, I lo, I hi] (fun r w' => Ext w w' ∧ ∃ a cap, r = .tuple #[.slice a (rangeL l lo hi).length cap, I 0] ∧ EntL w'.heap (.slice a (rangeL l lo hi).length cap) (rangeL l lo hi)) w := by
  refine (range_spec tr hl lo hi).mono fun r w' ⟨h1, v, h2, R, h3, h4⟩ => ?_
  subst h2
  have hl := h4.len
  obtain ⟨a, cap, rfl⟩ := h3.form
  rw [← hl]
  exact ⟨h1, a, cap, rfl, R, h3, h4.ents⟩

theorem rank_of_any {k tb : Nat} {l : List Ent} {w : World} (tr : TreeRep w.heap tb k l) (hl : l.length ≤ 100000) {u : Value} {q : List Nat} (t : Sl w.heap u q) :
    CallK Try.prog F_rank_Of [ptr tb, u] (fun r w' => Ext w w' ∧ ∃ (i : Nat) (e : Int), r = .tuple #[I i, I e] ∧ ((q.length = k ∧ e = 0 ∧ IdxOf l q i) ∨ (q.length ≠ k ∧ e = 2 ∧ i = 0))) w := by
  by_cases hq : q.length = k
  · exact (rank_of_spec tr hl t hq).mono fun r w' ⟨h1, h2⟩ => ⟨h1, ltN q l, 0, h2, .inl ⟨hq, rfl, idxOf_ltN tr.srt q⟩⟩
  · exact (rank_of_dim tr t hq).mono fun r w' ⟨h1, h2⟩ => ⟨h1, 0, 2, h2, .inr ⟨hq, rfl, rfl⟩⟩

theorem rangeL_sub {l : List Ent} {lo hi : Int} : ∀ e ∈ rangeL l lo hi, e ∈ l := fun e he => List.mem_of_mem_take (List.mem_of_mem_drop he)
theorem rangeL_len {l : List Ent} {lo hi : Int} : (rangeL l lo hi).length ≤ l.length := by
  unfold rangeL
  rw [List.length_drop, List.length_take]; omega

theorem same_entries_eq {v u : Value} {l : List Ent} {w : World} (s : EntL w.heap v l) (t : EntL w.heap u l) (hl : l.length ≤ 1000000) (hk : ∀ e ∈ l, e.1.length ≤ 1000000) :
    CallK Try.prog F_ref01_SameEntries [v, u] (fun r w' => Ext w w' ∧ r = .bool true) w :=
  (same_entries_spec s t hl hk).mono fun r w' ⟨h1, h2⟩ => ⟨h1, by rw [h2, decide_eq_true rfl]⟩

theorem nth_some {k tb : Nat} {l : List Ent} {w : World} (tr : TreeRep w.heap tb k l) (hl : l.length ≤ 100000) {i : Nat} {f : Int} (hf : f = i) (hi : i < l.length) :
    CallK Try.prog F_rank_Nth [ptr tb, I f] (fun r w' => Ext w w' ∧ ∃ a n cap, r = .tuple #[.agg #[.slice a n cap, U l[i].2], .bool true, I 0] ∧ Fresh w w' (.slice a n cap) l[i].1) w := by
  subst hf
  have hat : atI l (i : Int) = some l[i] := by
    unfold atI
    rw [if_neg (by omega), Int.toNat_natCast, List.getElem?_eq_getElem hi]
  refine (rank_nth_spec tr hl i).mono fun r w' ⟨h1, a, n, cap, x, h2, h3⟩ => ?_
  rw [hat] at h2 h3
  obtain ⟨hf, rfl⟩ := h3.fresh
  exact ⟨h1, a, n, cap, h2, hf⟩
theorem nth_none {k tb : Nat} {l : List Ent} {w : World} (tr : TreeRep w.heap tb k l) (hl : l.length ≤ 100000) {i : Int} (hi : ¬ (0 ≤ i ∧ i < l.length)) :
    CallK Try.prog F_rank_Nth [ptr tb, I i] (fun r w' => Ext w w' ∧ r = .tuple #[nilE, .bool false, I 0]) w := by
  have hat : atI l i = none := by
    unfold atI
    split
    · rfl
    · rw [List.getElem?_eq_none (by omega)]
  refine (rank_nth_spec tr hl i).mono fun r w' ⟨h1, a, n, cap, x, h2, h3⟩ => ?_
  rw [hat] at h2 h3
  obtain ⟨p0, -, -, hnone⟩ := h3.sl
  obtain ⟨-, rfl, rfl, rfl, rfl⟩ := hnone rfl
  exact ⟨h1, h2⟩

theorem EntS.one {h h' : Array Obj} {b o cap : Nat} {l : List Ent} (hen : EntS h (.slice (some ⟨b, o, none⟩) l.length cap) l) {i : Nat} (hi : i < l.length) (x : HExt h h') :
    EntL h' (.slice (some ⟨b, o + i * 2, none⟩) (i + 1 - i) (cap - i)) [l[i]] := by
  obtain ⟨b, o, cap, R, e1, h1, h2, h3⟩ := hen.ex
  cases e1
  have hRi : i < R.length := by have := h3.len; omega
  have hok := h3.ok i hRi hi
  refine ⟨[R[i]], ?_, ?_⟩
  · rw [show i + 1 - i = [R[i]].length by simp]
    have hc := (x.cels h2).sub (flat_elem entV_len R i hRi)
    exact .some _ _ _ _ _ (by rw [List.flatMap_singleton]; exact hc)
  · refine ⟨rfl, fun j h1 h2 => ?_⟩
    have hj : j = 0 := by simpa using h1
    subst hj
    exact ⟨hok.1.ext x, hok.2⟩

set_option maxHeartbeats 2000000 in
set_option maxRecDepth 100000 in
theorem rankOf_law {k from_ to : Int} {v pv : Value} {acts : List Act} {p : List Nat} {w : World} (s : ActL w.heap v acts) (hl : acts.length ≤ 9223372036854775807) (sp : Sl w.heap pv p) (hpl : p.length ≤ 9223372036854775807) :
    CallK Try.prog F_law10_RankOf [I k, v, pv, I from_, I to] (fun r w' => Ext w w' ∧ r = .bool true) w := by
  obtain ⟨va, vcap, rfl⟩ := s.form
  obtain ⟨pa, pcap, rfl⟩ := sp.form
  refine e_law10_RankOf rfl ?_
  refine cl (awake10_spec w) ?_
  rintro _ w1 ⟨hx1, rfl⟩
  refine cl (heavy_spec (s.ext hx1.1) hl 50) ?_
  rintro _ _ ⟨rfl, t, rfl, ht⟩
  cases t with
  | true => exact ⟨hx1, rfl⟩
  | false =>
    refine ts (fun g1 => ⟨hx1, rfl⟩) (fun g1 => ?_)
    refine ts (fun g2 => ⟨hx1, rfl⟩) (fun g2 => ?_)
    refine ts (fun g3 => ⟨hx1, rfl⟩) (fun g3 => ?_)
    obtain ⟨k, rfl⟩ : ∃ i : Nat, k = i := ⟨k.toNat, by omega⟩
    have hal := (ht rfl).1
    refine cl (grown_row (by omega) (by omega) (s.ext hx1.1) (by omega)) ?_
    rintro _ w2 ⟨hx2, tb, eb, eo, ecap, l, rfl, tr, hen, hle⟩
    have hecap : l.length ≤ ecap := by
      obtain ⟨b, o, cap, R, e1, h1, -⟩ := hen.ex
      cases e1; exact h1
    have hx02 : Ext w w2 := hx1.trans hx2
    have hlen : ∀ e ∈ l, e.1.length ≤ 1000000 := fun e he => by have := (tr.ok e he).1; omega
    have hfin : ∀ (w' : World), Ext w2 w' → EntL w'.heap (.slice (some ⟨eb, eo, none⟩) l.length ecap) l := fun w' h => hen.toL.ext h.1
    by_cases hq : p.length = k
    · refine cl (rank_of_spec tr (by omega) (sp.ext hx02.1) hq) ?_
      rintro _ w3 ⟨hx3, rfl⟩
      by_cases hin : 0 ≤ from_ ∧ from_ < l.length
      · have hfi : from_ = ((from_.toNat : Nat) : Int) := by omega
        have hi : from_.toNat < l.length := by omega
        refine cl (nth_some (tr.ext hx3.1) (by omega) hfi hi) ?_
        rintro _ w4 ⟨hx4, na, nn, ncap, rfl, hfr⟩
        refine al ?_
        intro nc w5 hnc hx5 hsz5 hblk5
        refine st hblk5 rfl rfl rfl ?_
        intro w6 u6
        have hx24 : Ext w2 w4 := hx3.trans hx4
        have hx46 : Ext w4 w6 := hx5.upd (by omega) u6
        have hx26 : Ext w2 w6 := hx24.trans hx46
        have h6 : w6.heap[nc]? = some (.cells (List.toArray [.slice na nn ncap, U l[from_.toNat].2]) T_api_Entry (0, 0)) := u6.new
        refine cl (range_form (tr.ext hx26.1) (by omega) from_ to) ?_
        rintro _ w7 ⟨hx7, ra, rcap, rfl, hrow⟩
        have hx27 := hx26.trans hx7
        refine tsT rfl ?_
        refine tsT rfl ?_
        refine cl (ref_range_spec (hen.toL.ext hx27.1) (by omega) from_ to) ?_
        rintro _ w8 ⟨hx8, qa, qcap, rfl, href⟩
        have hx28 := hx27.trans hx8
        refine cl (same_entries_eq (hrow.ext hx8.1) href (by have := rangeL_len (l := l) (lo := from_) (hi := to); omega) (fun e he => hlen e (rangeL_sub e he))) ?_
        rintro _ w9 ⟨hx9, rfl⟩
        have hx29 := hx28.trans hx9
        have h9 : w9.heap[nc]? = some (.cells (List.toArray [.slice na nn ncap, U l[from_.toNat].2]) T_api_Entry (0, 0)) := hx9.blk (hx8.blk (hx7.blk h6))
        have hfr9 := (((hfr.ext hx46).ext hx7).ext hx8).ext hx9
        refine tsT hin.1 ?_
        refine tsT hin.2 ?_
        refine tsT rfl ?_
        refine ldC (cs := [.slice na nn ncap, U l[from_.toNat].2]) (celsAt_blk (o := 0) h9 rfl) rfl ?_
        refine nm (v := ((from_.toNat + 1 : Nat) : Int)) (wr64 (by omega) (by omega) (by omega)) ?_
        refine ⟨by omega, by omega, by omega, by omega, _, sub_ex hfi rfl (show from_.toNat < ecap by omega), ?_⟩
        refine ⟨rfl, rfl, by decide, al ?_⟩
        intro nd w10 hnd hx10 hsz10 hblk10
        have hx9' : Ext w9 w10 := hx10
        refine ⟨hx10, ?_⟩
        have hblk10' : w10.heap[nd]? = some (.cells ([((Value.slice na nn ncap), l[from_.toNat].2)].flatMap entV).toArray T_ent (0, 0)) := hblk10
        have hE1 : EntL w10.heap (.slice (some ⟨nd, 0, none⟩) 1 1) [l[from_.toNat]] := ⟨[(.slice na nn ncap, l[from_.toNat].2)], .ofBlk' hblk10', Ents.one (hfr9.ext hx9').sl _⟩
        have hE2 := hen.one hi (hx29.trans hx9').1
        refine cl (same_entries_eq hE1 hE2 (by simp) (fun e he => by rw [List.mem_singleton.1 he]; exact hlen _ (List.getElem_mem hi))) ?_
        rintro _ w11 ⟨hx11, rfl⟩
        refine ⟨hx10.trans hx11, ?_⟩
        have hx2' : Ext w2 w11 := (hx29.trans hx9').trans hx11
        refine tsT (show (p.length : Int) = k by omega) ?_
        refine tsT rfl ?_
        refine cl (ref_from_spec (hfin _ hx2') (sp.ext (hx02.trans hx2').1) tr.srt (fun e he => ⟨by rw [hq]; exact (tr.ok e he).1, (tr.ok e he).2.1⟩) (by omega) (by omega)) ?_
        rintro _ _ ⟨rfl, j, rfl, hj⟩
        refine tsT (show ((ltN p l : Nat) : Int) = (j : Nat) by rw [(idxOf_ltN tr.srt p).uniq hj]) ?_
        exact ⟨hx02.trans hx2', rfl⟩
      · refine cl (nth_none (tr.ext hx3.1) (by omega) hin) ?_
        rintro _ w4 ⟨hx4, rfl⟩
        refine al ?_
        intro nc w5 hnc hx5 hsz5 hblk5
        refine st hblk5 rfl rfl rfl ?_
        intro w6 u6
        have hx24 : Ext w2 w4 := hx3.trans hx4
        have hx46 : Ext w4 w6 := hx5.upd (by omega) u6
        have hx26 : Ext w2 w6 := hx24.trans hx46
        have h6 : w6.heap[nc]? = some (.cells (List.toArray [.slice none 0 0, U 0]) T_api_Entry (0, 0)) := u6.new
        refine cl (range_form (tr.ext hx26.1) (by omega) (from_) to) ?_
        rintro _ w7 ⟨hx7, ra, rcap, rfl, hrow⟩
        have hx27 := hx26.trans hx7
        refine tsT rfl ?_
        refine tsT rfl ?_
        refine cl (ref_range_spec (hen.toL.ext hx27.1) (by omega) (from_) to) ?_
        rintro _ w8 ⟨hx8, qa, qcap, rfl, href⟩
        have hx28 := hx27.trans hx8
        refine cl (same_entries_eq (hrow.ext hx8.1) href (by have := rangeL_len (l := l) (lo := (from_)) (hi := to); omega) (fun e he => hlen e (rangeL_sub e he))) ?_
        rintro _ w9 ⟨hx9, rfl⟩
        have hx29 := hx28.trans hx9
        have h9 : w9.heap[nc]? = some (.cells (List.toArray [.slice none 0 0, U 0]) T_api_Entry (0, 0)) := hx9.blk (hx8.blk (hx7.blk h6))
        have hx2' : Ext w2 (drw w9) := hx29
        refine ts (fun g5 => ?_) (fun g5 => ?_)
        · refine tsF (fun g6 => hin ⟨g5, g6⟩) ?_
          refine tsT rfl ?_
          refine ⟨by decide, ldB h9 rfl ?_⟩
          refine tsT rfl ?_
          refine ⟨by decide, ldB h9 rfl ?_⟩
          refine tsT rfl ?_
          refine tsT (show (p.length : Int) = k by omega) ?_
          refine tsT rfl ?_
          refine cl (ref_from_spec (hfin _ hx2') (sp.ext (hx02.trans hx2').1) tr.srt (fun e he => ⟨by rw [hq]; exact (tr.ok e he).1, (tr.ok e he).2.1⟩) (by omega) (by omega)) ?_
          rintro _ _ ⟨rfl, j, rfl, hj⟩
          refine tsT (show ((ltN p l : Nat) : Int) = (j : Nat) by rw [(idxOf_ltN tr.srt p).uniq hj]) ?_
          exact ⟨hx02.trans hx2', rfl⟩
        · refine tsT rfl ?_
          refine ⟨by decide, ldB h9 rfl ?_⟩
          refine tsT rfl ?_
          refine ⟨by decide, ldB h9 rfl ?_⟩
          refine tsT rfl ?_
          refine tsT (show (p.length : Int) = k by omega) ?_
          refine tsT rfl ?_
          refine cl (ref_from_spec (hfin _ hx2') (sp.ext (hx02.trans hx2').1) tr.srt (fun e he => ⟨by rw [hq]; exact (tr.ok e he).1, (tr.ok e he).2.1⟩) (by omega) (by omega)) ?_
          rintro _ _ ⟨rfl, j, rfl, hj⟩
          refine tsT (show ((ltN p l : Nat) : Int) = (j : Nat) by rw [(idxOf_ltN tr.srt p).uniq hj]) ?_
          exact ⟨hx02.trans hx2', rfl⟩
    · refine cl (rank_of_dim tr (sp.ext hx02.1) hq) ?_
      rintro _ w3 ⟨hx3, rfl⟩
      by_cases hin : 0 ≤ from_ ∧ from_ < l.length
      · have hfi : from_ = ((from_.toNat : Nat) : Int) := by omega
        have hi : from_.toNat < l.length := by omega
        refine cl (nth_some (tr.ext hx3.1) (by omega) hfi hi) ?_
        rintro _ w4 ⟨hx4, na, nn, ncap, rfl, hfr⟩
        refine al ?_
        intro nc w5 hnc hx5 hsz5 hblk5
        refine st hblk5 rfl rfl rfl ?_
        intro w6 u6
        have hx24 : Ext w2 w4 := hx3.trans hx4
        have hx46 : Ext w4 w6 := hx5.upd (by omega) u6
        have hx26 : Ext w2 w6 := hx24.trans hx46
        have h6 : w6.heap[nc]? = some (.cells (List.toArray [.slice na nn ncap, U l[from_.toNat].2]) T_api_Entry (0, 0)) := u6.new
        refine cl (range_form (tr.ext hx26.1) (by omega) from_ to) ?_
        rintro _ w7 ⟨hx7, ra, rcap, rfl, hrow⟩
        have hx27 := hx26.trans hx7
        refine tsT rfl ?_
        refine tsT rfl ?_
        refine cl (ref_range_spec (hen.toL.ext hx27.1) (by omega) from_ to) ?_
        rintro _ w8 ⟨hx8, qa, qcap, rfl, href⟩
        have hx28 := hx27.trans hx8
        refine cl (same_entries_eq (hrow.ext hx8.1) href (by have := rangeL_len (l := l) (lo := from_) (hi := to); omega) (fun e he => hlen e (rangeL_sub e he))) ?_
        rintro _ w9 ⟨hx9, rfl⟩
        have hx29 := hx28.trans hx9
        have h9 : w9.heap[nc]? = some (.cells (List.toArray [.slice na nn ncap, U l[from_.toNat].2]) T_api_Entry (0, 0)) := hx9.blk (hx8.blk (hx7.blk h6))
        have hfr9 := (((hfr.ext hx46).ext hx7).ext hx8).ext hx9
        refine tsT hin.1 ?_
        refine tsT hin.2 ?_
        refine tsT rfl ?_
        refine ldC (cs := [.slice na nn ncap, U l[from_.toNat].2]) (celsAt_blk (o := 0) h9 rfl) rfl ?_
        refine nm (v := ((from_.toNat + 1 : Nat) : Int)) (wr64 (by omega) (by omega) (by omega)) ?_
        refine ⟨by omega, by omega, by omega, by omega, _, sub_ex hfi rfl (show from_.toNat < ecap by omega), ?_⟩
        refine ⟨rfl, rfl, by decide, al ?_⟩
        intro nd w10 hnd hx10 hsz10 hblk10
        have hx9' : Ext w9 w10 := hx10
        refine ⟨hx10, ?_⟩
        have hblk10' : w10.heap[nd]? = some (.cells ([((Value.slice na nn ncap), l[from_.toNat].2)].flatMap entV).toArray T_ent (0, 0)) := hblk10
        have hE1 : EntL w10.heap (.slice (some ⟨nd, 0, none⟩) 1 1) [l[from_.toNat]] := ⟨[(.slice na nn ncap, l[from_.toNat].2)], .ofBlk' hblk10', Ents.one (hfr9.ext hx9').sl _⟩
        have hE2 := hen.one hi (hx29.trans hx9').1
        refine cl (same_entries_eq hE1 hE2 (by simp) (fun e he => by rw [List.mem_singleton.1 he]; exact hlen _ (List.getElem_mem hi))) ?_
        rintro _ w11 ⟨hx11, rfl⟩
        refine ⟨hx10.trans hx11, ?_⟩
        have hx2' : Ext w2 w11 := (hx29.trans hx9').trans hx11
        refine tsF (show ¬ (p.length : Int) = k by omega) ?_
        refine tsT rfl ?_
        refine tsT rfl ?_
        exact ⟨hx02.trans hx2', rfl⟩
      · refine cl (nth_none (tr.ext hx3.1) (by omega) hin) ?_
        rintro _ w4 ⟨hx4, rfl⟩
        refine al ?_
        intro nc w5 hnc hx5 hsz5 hblk5
        refine st hblk5 rfl rfl rfl ?_
        intro w6 u6
        have hx24 : Ext w2 w4 := hx3.trans hx4
        have hx46 : Ext w4 w6 := hx5.upd (by omega) u6
        have hx26 : Ext w2 w6 := hx24.trans hx46
        have h6 : w6.heap[nc]? = some (.cells (List.toArray [.slice none 0 0, U 0]) T_api_Entry (0, 0)) := u6.new
        refine cl (range_form (tr.ext hx26.1) (by omega) (from_) to) ?_
        rintro _ w7 ⟨hx7, ra, rcap, rfl, hrow⟩
        have hx27 := hx26.trans hx7
        refine tsT rfl ?_
        refine tsT rfl ?_
        refine cl (ref_range_spec (hen.toL.ext hx27.1) (by omega) (from_) to) ?_
        rintro _ w8 ⟨hx8, qa, qcap, rfl, href⟩
        have hx28 := hx27.trans hx8
        refine cl (same_entries_eq (hrow.ext hx8.1) href (by have := rangeL_len (l := l) (lo := (from_)) (hi := to); omega) (fun e he => hlen e (rangeL_sub e he))) ?_
        rintro _ w9 ⟨hx9, rfl⟩
        have hx29 := hx28.trans hx9
        have h9 : w9.heap[nc]? = some (.cells (List.toArray [.slice none 0 0, U 0]) T_api_Entry (0, 0)) := hx9.blk (hx8.blk (hx7.blk h6))
        have hx2' : Ext w2 (drw w9) := hx29
        refine ts (fun g5 => ?_) (fun g5 => ?_)
        · refine tsF (fun g6 => hin ⟨g5, g6⟩) ?_
          refine tsT rfl ?_
          refine ⟨by decide, ldB h9 rfl ?_⟩
          refine tsT rfl ?_
          refine ⟨by decide, ldB h9 rfl ?_⟩
          refine tsT rfl ?_
          refine tsF (show ¬ (p.length : Int) = k by omega) ?_
          refine tsT rfl ?_
          refine tsT rfl ?_
          exact ⟨hx02.trans hx2', rfl⟩
        · refine tsT rfl ?_
          refine ⟨by decide, ldB h9 rfl ?_⟩
          refine tsT rfl ?_
          refine ⟨by decide, ldB h9 rfl ?_⟩
          refine tsT rfl ?_
          refine tsF (show ¬ (p.length : Int) = k by omega) ?_
          refine tsT rfl ?_
          refine tsT rfl ?_
          exact ⟨hx02.trans hx2', rfl⟩

end Go.Proofs.Ytlpndcfkjkbeoaa

namespace Go.Pan
open Go
/-- append, its result written out -/
theorem appF {P : Program} {tt : Nat → Option TI} (htt : ∀ t i, tt t = some i → tiOf P t = some i) {o : Oper} {ρ : Operand → Value} {K : Value → World → Prop} {w : World} {s x : Operand} {t : TypeId}
    (ho : o.op = .call { callee := .builtin .append, args := #[s, x], argTypes := #[t, t] }) {a b : Nat} {c : Bool} {z : List Value} {e : TypeId} {esz : Nat} (ht : tt t = some ⟨a, b, c, z, .slice e esz⟩)
    {ie : TI} (he : tt e = some ie) (hsz : ie.size = esz) (hpos : 0 < esz) (hzl : ie.zero.length = esz)
    {base : Nat} {v : Value} {n : Nat} {xs : List Value} (hv : ρ s = v) (hown : w.ownsRow base e esz v n xs) {ad : Addr} {m cp : Nat} {news : List Value} (hx : ρ x = .slice (some ad) m cp)
    (hl : news.length = m * esz) (hc : celsAt w.heap ad news) (hf : news.all flat = true) (h1 : n + m ≤ 4294967296) (h2 : ie.bytes ≤ 1024) (hb : base ≤ w.heap.size)
    (hk : ∀ a' cap' w', w'.ownsRow base e esz (.slice a' (n + m) cap') (n + m) (xs ++ news) → w.grownBy w' v.ownBlock → K (.slice a' (n + m) cap') w') : GenK P o ρ K w :=
  app htt ho ht he hsz hpos hzl hv hown hx hl hc hf h1 h2 hb fun v' w' ho hg _ => by
    obtain ⟨a', cap', rfl⟩ := (own_rw ho).form
    exact hk a' cap' w' ho hg
end Go.Pan
namespace Go.Proofs.Ytlpndcfkjkbeoaa
open Go Go.Pan

/-! ### walk: All -/

abbrev fnV (g : FuncId) (caps : List Value) : Value := .func (.func g) #[] caps.toArray

theorem filter_next {L a c : Nat} {l : List Ent} (hm : l.Pairwise (fun e f => dig L e.1 ≤ dig L f.1)) (hca : c ≤ a) (hl : ∀ e ∈ l, dig L e.1 < a → dig L e.1 < c) :
    l.filter (fun e => decide (dig L e.1 < c)) ++ atA L a l = l.filter (fun e => decide (dig L e.1 < a + 1)) := by
  have h1 : l.filter (fun e => decide (dig L e.1 < c)) = l.filter (fun e => decide (dig L e.1 < a)) := List.filter_congr fun e he => by
    congr 1
    apply propext
    exact ⟨fun g => by omega, hl e he⟩
  rw [h1]
  clear h1 hl hca
  unfold atA
  induction l with
  | nil => rfl
  | cons e l ih =>
    obtain ⟨h1, h2⟩ := List.pairwise_cons.1 hm
    have ih := ih h2
    simp only [List.filter_cons]
    rcases Nat.lt_trichotomy (dig L e.1) a with g | g | g
    · rw [if_pos (by simpa using g), if_neg (by simpa using by omega), if_pos (by simpa using by omega), List.cons_append, ih]
    · have hn : l.filter (fun e => decide (dig L e.1 < a)) = [] := List.filter_eq_nil_iff.2 fun f hf => by have := h1 f hf; simp only [decide_eq_true_eq]; omega
      rw [hn] at ih ⊢
      rw [if_neg (by simpa using by omega), if_pos (by simpa using g), if_pos (by simpa using by omega), List.nil_append, ← ih, List.nil_append]
    · have hn : l.filter (fun e => decide (dig L e.1 < a)) = [] := List.filter_eq_nil_iff.2 fun f hf => by have := h1 f hf; simp only [decide_eq_true_eq]; omega
      rw [if_neg (by simpa using by omega), if_neg (by simpa using by omega), if_neg (by simpa using by omega), ih]

/-- each: 'Y done w': what has been told so far -/
theorem each_spec {k : Nat} {h0 : Array Obj} {g : FuncId} {caps : List Value} {Y : List Ent → World → Prop} {M : Nat} (hY0 : ∀ {d w}, Y d w → HExt h0 w.heap) (hYx : ∀ {d w w'}, Y d w → Ext w w' → Y d w')
    (hg : ∀ {d w a n cap e}, d.length < M → Y d w → SlT w.heap (.slice a n cap) e.1 → CallK Try.prog g ([.agg #[.slice a n cap, U e.2]] ++ caps) (fun r w' => r = .bool true ∧ Y (d ++ [e]) w') w) :
    ∀ (N : Nat) {n b : Nat} {l d : List Ent} {w : World}, n ≤ N → NodeRep h0 k b n l → d.length + l.length ≤ M → Y d w → CallK Try.prog F_walk_each [ptr b, fnV g caps] (fun r w' => r = .bool true ∧ Y (d ++ l) w') w := by
  intro N
  induction N with
  | zero =>
    intro n b l d w hn r hM hy
    obtain rfl : n = 0 := by omega
    refine e_walk_each rfl ?_
    refine cl (node_entry_spec (r.ext (hY0 hy))) ?_
    rintro re w1 ⟨hx1, ⟨h, -⟩ | ⟨-, p, v, pv, rfl, rfl, hfr⟩⟩
    · omega
    obtain ⟨cb, cap, rest, rfl, hcb, hcblk⟩ := hfr.own
    refine al ?_
    intro nc w2 hnc hx2 hsz2 hblk2
    refine st hblk2 rfl rfl rfl ?_
    intro w3 u3
    have hx3 : Ext w w3 := (hx1.trans hx2).upd (by have := hx1.1.1; omega) u3
    have h3 : w3.heap[nc]? = some (.cells #[.slice (some ⟨cb, 0, none⟩) p.length cap, U v] T_api_Entry (0, 0)) := u3.new
    have hcl := lt_of_blk hcblk
    have hc3 := u3.old (show cb ≠ nc by omega) (hx2.blk hcblk)
    refine ldC (cs := [.slice (some ⟨cb, 0, none⟩) p.length cap, U v]) (celsAt_blk (o := 0) h3 rfl) rfl ?_
    refine cl (hg (e := (p, v)) (by simp at hM; omega) (hYx hy hx3) (.some cb cap p rest hc3 hfr.sl.small)) ?_
    rintro _ w4 ⟨rfl, hy4⟩
    exact ⟨rfl, hy4⟩
  | succ N ih =>
    intro n b l d w hn r hM hy
    rcases Nat.eq_zero_or_pos n with rfl | hn0
    · refine e_walk_each rfl ?_
      refine cl (node_entry_spec (r.ext (hY0 hy))) ?_
      rintro re w1 ⟨hx1, ⟨h, -⟩ | ⟨-, p, v, pv, rfl, rfl, hfr⟩⟩
      · omega
      obtain ⟨cb, cap, rest, rfl, hcb, hcblk⟩ := hfr.own
      refine al ?_
      intro nc w2 hnc hx2 hsz2 hblk2
      refine st hblk2 rfl rfl rfl ?_
      intro w3 u3
      have hx3 : Ext w w3 := (hx1.trans hx2).upd (by have := hx1.1.1; omega) u3
      have h3 : w3.heap[nc]? = some (.cells #[.slice (some ⟨cb, 0, none⟩) p.length cap, U v] T_api_Entry (0, 0)) := u3.new
      have hcl := lt_of_blk hcblk
      have hc3 := u3.old (show cb ≠ nc by omega) (hx2.blk hcblk)
      refine ldC (cs := [.slice (some ⟨cb, 0, none⟩) p.length cap, U v]) (celsAt_blk (o := 0) h3 rfl) rfl ?_
      refine cl (hg (e := (p, v)) (by simp at hM; omega) (hYx hy hx3) (.some cb cap p rest hc3 hfr.sl.small)) ?_
      rintro _ w4 ⟨rfl, hy4⟩
      exact ⟨rfl, hy4⟩
    obtain ⟨L, rfl⟩ : ∃ L, n = L + 1 := ⟨n - 1, by omega⟩
    have hk16 := r.k1
    have h16 : (2 : Nat) ^ k ≤ 2 ^ 16 := Nat.pow_le_pow_right (by decide) hk16.2
    refine e_walk_each rfl ?_
    refine cl (node_entry_spec (r.ext (hY0 hy))) ?_
    rintro re w1 ⟨hx1, ⟨-, rfl⟩ | ⟨h, -⟩⟩
    rotate_left
    · omega
    refine al ?_
    intro nc w2 hnc hx2 hsz2 hblk2
    refine st hblk2 rfl rfl rfl ?_
    intro w3 u3
    have hx3 : Ext w w3 := (hx1.trans hx2).upd (by have := hx1.1.1; omega) u3
    have hy3 := hYx hy hx3
    refine cl (from_at_spec r (hY0 hy3) (c := 0) rfl) ?_
    rintro _ w4 ⟨hx4, o, rfl, hk0⟩
    refine lp (fun s : Nat × Option (Nat × Nat × Nat) => [(0, ptr b), (1, fnV g caps), (7, kidA s.2), (8, kidP s.2)])
      (fun s w' => KidAt h0 k L l s.1 s.2 ∧ s.1 ≤ 2 ^ k ∧ Y (d ++ l.filter (fun e => decide (dig L e.1 < s.1))) w') (fun s => 2 ^ k - s.1 + 1) (0, o) ⟨rfl, rfl, rfl, rfl, trivial⟩ ⟨hk0, Nat.zero_le _, ?_⟩ ?_
    · rw [List.filter_eq_nil_iff.2 (by simp), List.append_nil]
      exact hYx hy3 hx4
    rintro ⟨c, o⟩ e0 w5 ⟨hk5, hc, hy5⟩
    simp only at hk5 hc hy5
    cases o with
    | none =>
      have : l.filter (fun e => decide (dig L e.1 < c)) = l := List.filter_eq_self.2 fun e he => by simpa using hk5 e he
      rw [this] at hy5
      exact ⟨rfl, hy5⟩
    | some s =>
      obtain ⟨a, p, n'⟩ := s
      obtain ⟨hca, hak, hn', rp, hleast⟩ := hk5
      have hlen : (l.filter (fun e => decide (dig L e.1 < c))).length + (atA L a l).length ≤ l.length := by
        rw [← List.length_append, filter_next r.mono hca hleast]
        exact List.length_filter_le ..
      refine cl (ih (by omega) rp (by rw [List.length_append]; omega) hy5) ?_
      rintro _ w6 ⟨rfl, hy6⟩
      refine nm (v := ((a : Nat) : Int) + 1) (wr64 rfl (by omega) (by omega)) ?_
      refine cl (from_at_spec r (hY0 hy6) (c := a + 1) (by simp)) ?_
      rintro _ w7 ⟨hx7, o', rfl, hk7⟩
      refine ⟨(a + 1, o'), ⟨⟨rfl, rfl, rfl, rfl, trivial⟩, hk7, hak, ?_⟩, by simp only; omega⟩
      simp only
      have : l.filter (fun e => decide (dig L e.1 < c)) ++ atA L a l = l.filter (fun e => decide (dig L e.1 < a + 1)) := filter_next r.mono hca hleast
      rw [← this, ← List.append_assoc]
      exact hYx hy6 hx7

theorem each_nil_spec (f : Value) (w : World) : CallK Try.prog F_walk_each [nilp, f] (fun r w' => w = w' ∧ r = .bool true) w := by
  refine e_walk_each rfl ?_
  exact ⟨rfl, rfl⟩

/-- what the entries told to All are, in the cell that its closure holds -/
structure AllY (w0 : World) (cb : Nat) (d : List Ent) (w : World) : Prop where
  ext : Ext w0 w
  ex : ∃ v R, w.heap[cb]? = some (.cells #[v] T_sl_api_Entry (0, 0)) ∧ w.ownsRow w0.heap.size T_ent 2 v d.length (R.flatMap entV) ∧ EntsT w.heap R d

theorem EntsT.one {h : Array Obj} {v : Value} {p : List Nat} (s : SlT h v p) (x : Nat) : EntsT h [(v, x)] [(p, x)] := by
  refine ⟨rfl, fun i h1 h2 => ?_⟩
  have : i = 0 := by simp at h1; omega
  subst this
  exact ⟨s, rfl⟩
theorem EntsT.upd {w w' : World} {R : List (Value × Nat)} {l : List Ent} {b : Nat} {cs : Array Value} {t : TypeId} {fz : Nat × Nat} {ob : Obj} (e : EntsT w.heap R l) (hb : w.heap[b]? = some (.cells cs t fz)) (ht : t ≠ T_u64) (u : Upd w w' b ob) : EntsT w'.heap R l :=
  ⟨e.len, fun i h1 h2 => ⟨(e.ok i h1 h2).1.extB hb ht u.toB, (e.ok i h1 h2).2⟩⟩
theorem own_upd {w w' : World} {base : Nat} {e : TypeId} {size : Nat} {v : Value} {n : Nat} {xs : List Value} {b : Nat} {cs : Array Value} {t : TypeId} {fz : Nat × Nat} {ob : Obj} (h : w.ownsRow base e size v n xs) (hb : w.heap[b]? = some (.cells cs t fz)) (ht : t ≠ e) (u : Upd w w' b ob) : w'.ownsRow base e size v n xs := by
  refine ⟨h.1, ?_⟩
  rcases h.2 with hn | ⟨g, cap, cur, rfl, hg, hh, rest⟩
  · exact .inl hn
  · refine .inr ⟨g, cap, cur, rfl, hg, u.old (fun e => ?_) hh, rest⟩
    subst e
    rw [hh] at hb
    cases hb
    exact ht rfl
theorem AllY.keep {w0 : World} {cb : Nat} {d : List Ent} {w w' : World} (h : AllY w0 cb d w) (x : Ext w w') : AllY w0 cb d w' := by
  obtain ⟨hx, v, R, h1, h2, h3⟩ := h
  exact ⟨hx.trans x, v, R, x.blk h1, own_keep h2 x, h3.ext x.1⟩

theorem all1_spec {w0 : World} {cb : Nat} (hcb : w0.heap.size ≤ cb) {d : List Ent} {w : World} {a : Option Addr} {n cap : Nat} {e : Ent} (hd : d.length < 100000) (hy : AllY w0 cb d w) (hs : SlT w.heap (.slice a n cap) e.1) :
    CallK Try.prog F_walk_All_1 [.agg #[.slice a n cap, U e.2], ptr cb] (fun r w' => r = .bool true ∧ AllY w0 cb (d ++ [e]) w') w := by
  obtain ⟨hx0, v, R, hc, hown, hR⟩ := hy
  obtain ⟨va, vcap, rfl⟩ := (own_rw hown).form
  refine e_walk_All_1 rfl ?_
  refine al ?_
  intro nb w1 hnb hx1 hsz1 hblk1
  have hb1 : w1.heap[nb]? = some (.cells #[.slice a n cap, U e.2] T_api_Entry (0, 0)) := hblk1
  have hcl := lt_of_blk hc
  refine ldB (hx1.blk hc) rfl ?_
  refine ldC (cs := [.slice a n cap, U e.2]) (celsAt_blk (o := 0) hb1 rfl) rfl ?_
  refine ⟨rfl, rfl, by decide, al ?_⟩
  intro nd w2 hnd hx2 hsz2 hblk2
  have hx12 : Ext w w2 := hx1.trans hx2
  have hown2 := own_keep hown hx12
  refine appF tt_ok rfl rfl rfl rfl (by decide) rfl rfl hown2 rfl (news := entV (.slice a n cap, e.2)) rfl (celsAt_blk (o := 0) hblk2 rfl) rfl (by omega) (by decide) (by have := (hx0.trans hx12).1.1; omega) ?_
  intro a' cap' w3 ho3 hg3
  have hx03 : Ext w0 w3 := (hx0.trans hx12).grown hg3 (own_row hown2)
  have hc2 := hx12.blk hc
  have hty := own_type hown2
  have hc3 : w3.heap[cb]? = some (.cells #[.slice va d.length vcap] T_sl_api_Entry (0, 0)) := (hg3.block cb (lt_of_blk hc2) (fun h => by
    obtain ⟨cs, fz, h1⟩ := hty cb h.symm
    rw [hc2] at h1
    cases h1)).trans hc2
  refine st hc3 rfl rfl rfl ?_
  intro w4 u4
  have h4 : w4.heap[cb]? = some (.cells #[.slice a' (d.length + 1) cap'] T_sl_api_Entry (0, 0)) := u4.new
  have hR3 := (((hR.ext hx12.1).grown hg3 hty (by decide)).append (EntsT.one ((hs.ext hx12.1).grown hg3 hty (by decide)) e.2)).upd hc3 (by decide) u4
  refine ⟨rfl, hx03.upd hcb u4, .slice a' (d.length + 1) cap', R ++ [(.slice a n cap, e.2)], h4, ?_, hR3⟩
  rw [List.length_append, List.flatMap_append, List.flatMap_singleton]
  exact own_upd ho3 hc3 (by decide) u4

theorem walk_all_spec {k n : Nat} {o : Option Nat} {l : List Ent} {w : World} {h0 : Array Obj} (r : NodeO h0 k o n l) (x0 : HExt h0 w.heap) (hl : l.length ≤ 100000) :
    CallK Try.prog F_walk_All [ptrO o] (fun r w' => Ext w w' ∧ ∃ a cap R, r = .slice a l.length cap ∧ Rw w'.heap (.slice a l.length cap) l.length (R.flatMap entV) ∧ EntsT w'.heap R l) w := by
  refine e_walk_All rfl ?_
  refine al ?_
  intro cb w1 hcb hx1 hsz1 hblk1
  have hc1 : w1.heap[cb]? = some (.cells #[.slice none 0 0] T_sl_api_Entry (0, 0)) := hblk1
  cases o with
  | none =>
    have : l = [] := r
    subst this
    refine cl (each_nil_spec _ w1) ?_
    rintro _ _ ⟨rfl, rfl⟩
    refine ldB hc1 rfl ?_
    exact ⟨hx1, none, 0, [], rfl, .nil _ _, EntsT.nil _⟩
  | some b =>
    have hY1 : AllY w cb [] w1 := ⟨hx1, _, [], hc1, own_none _ _ _ _, EntsT.nil _⟩
    have := each_spec (k := k) (h0 := h0) (g := F_walk_All_1) (caps := [ptr cb]) (Y := AllY w cb) (M := 100000) (fun h => x0.trans h.ext.1) (fun h x => h.keep x) (fun hd h hs => all1_spec (by omega) hd h hs) n (Nat.le_refl n) r (d := []) (by simpa using hl) hY1
    refine cl this ?_
    rintro _ w2 ⟨rfl, hx2, v, R, hc2, hown, hR⟩
    refine ldB hc2 rfl ?_
    obtain ⟨va, vcap, hv⟩ := (own_rw hown).form
    have hrw := own_rw hown
    rw [hv] at hrw
    exact ⟨hx2, va, vcap, R, hv, hrw, hR⟩

end Go.Proofs.Ytlpndcfkjkbeoaa

namespace Go.Proofs.Ytlpndcfkjkbeoaa
open Go Go.Pan

/-! ### trees: Get -/

/-- a point's value in a list -/
def getL (q : List Nat) (l : List Ent) : Option Nat := (l.find? fun e => decide (e.1 = q)).map (·.2)
theorem getL_some {q : List Nat} {x : Nat} {l : List Ent} (hs : Srt l) : getL q l = some x ↔ (q, x) ∈ l := by
  unfold getL
  rw [Option.map_eq_some_iff]
  constructor
  · rintro ⟨e, h, rfl⟩
    have h1 := List.mem_of_find?_eq_some h
    have h2 : e.1 = q := by simpa using List.find?_some h
    rw [← h2]; exact h1
  · intro h
    cases hf : l.find? fun e => decide (e.1 = q) with
    | none => exact absurd (List.find?_eq_none.1 hf _ h) (by simp)
    | some e =>
      have h1 := List.mem_of_find?_eq_some hf
      have h2 : e.1 = q := by simpa using List.find?_some hf
      exact ⟨e, rfl, by rw [srt_inj hs h1 h h2]⟩
theorem getL_none {q : List Nat} {l : List Ent} : getL q l = none ↔ ∀ e ∈ l, e.1 ≠ q := by
  unfold getL
  rw [Option.map_eq_none_iff, List.find?_eq_none]
  simp

set_option maxHeartbeats 1000000 in
theorem tree_get_spec {k b : Nat} {l : List Ent} {w : World} {u : Value} {q : List Nat} (tr : TreeRep w.heap b k l) (t : Sl w.heap u q) (hq : q.length = k) :
    CallK Try.prog F_tree_Tree_Get [ptr b, u] (fun r w' => Ext w w' ∧ r = .tuple #[U ((getL q l).getD 0), .bool (getL q l).isSome, I 0]) w := by
  refine e_tree_Tree_Get rfl ?_
  refine cl (tree_check_spec tr t) ?_
  rintro _ _ ⟨rfl, rfl⟩
  rw [if_pos hq]
  refine tsT rfl ?_
  refine cl (path_spec tr t hq) ?_
  rintro _ w1 ⟨hx1, v, below, rfl, ⟨ps, m, hway, hcase⟩⟩
  have hlv := hway.lvl
  rcases hcase with ⟨lb, hleaf, hag, hr, rfl, g, cap, rfl, hcap⟩ | ⟨o, n', ho, hn'm, hnn', h0, hr, rfl⟩
  · refine cl (found_spec (hleaf.ext hx1.1) hr (by simp) (by omega)) ?_
    rintro _ w2 ⟨hx2, ⟨h, -⟩ | ⟨-, p, y, pv, hl, rfl, hs⟩⟩
    · omega
    have hpq : p = q ∧ (q, y) ∈ l := by
      have : (p, y) ∈ ag 0 q l := by rw [hl]; simp
      have := ag_zero.1 this
      exact ⟨this.2, by rw [← this.2]; exact this.1⟩
    obtain ⟨rfl, hy⟩ := hpq
    obtain ⟨pa, pcap, rfl⟩ := hs.form
    refine al ?_
    intro nb w3 hnb hx3 hsz3 hblk3
    refine st hblk3 rfl rfl rfl ?_
    intro w4 u4
    have hx4 : Ext w w4 := (hx1.trans hx2).trans (hx3.upd (show w2.heap.size ≤ nb by omega) u4)
    have hb4 : w4.heap[nb]? = some (.cells #[.slice pa p.length pcap, U y] T_api_Entry (0, 0)) := u4.new
    refine ⟨by decide, ldB hb4 rfl ?_⟩
    rw [(getL_some tr.srt).2 hy]
    exact ⟨hx4, rfl⟩
  · have fnd : CallK Try.prog F_tree_found [v] (fun r w' => Ext w1 w' ∧ r = .tuple #[nilE, .bool false]) w1 := by
      rcases hway.leafless with rfl | ⟨b1, n1, ps', rfl, hn1⟩
      · obtain ⟨a, cap, rfl⟩ := hr.form
        exact found_nil_spec cap a w1
      · refine (found_spec (j := ps'.length) (hn1.ext hx1.1) (by simpa using hr) ?_ (by simp only [List.length_cons] at hlv; omega)).mono ?_
        · rw [List.getElem?_append_right (by simp)]
          simp
        · rintro r w' ⟨h1, ⟨-, h2⟩ | ⟨h2, -⟩⟩
          · exact ⟨h1, h2⟩
          · omega
    refine cl fnd ?_
    rintro _ w2 ⟨hx2, rfl⟩
    refine al ?_
    intro nb w3 hnb hx3 hsz3 hblk3
    refine st hblk3 rfl rfl rfl ?_
    intro w4 u4
    have hx4 : Ext w w4 := (hx1.trans hx2).trans (hx3.upd (show w2.heap.size ≤ nb by omega) u4)
    have hb4 : w4.heap[nb]? = some (.cells #[.slice none 0 0, U 0] T_api_Entry (0, 0)) := u4.new
    refine ⟨by decide, ldB hb4 rfl ?_⟩
    rw [getL_none.2 (nil_of_ag h0)]
    exact ⟨hx4, rfl⟩

/-! ### sets: check, Subset -/

theorem sets_check_spec {ka kb a b : Nat} {la lb : List Ent} {w : World} (ta : TreeRep w.heap a ka la) (tb : TreeRep w.heap b kb lb) (rule : Int) :
    CallK Try.prog F_sets_check [ptr a, ptr b, I rule] (fun r w' => w = w' ∧ ((ka ≠ kb ∧ r = I 2) ∨ (ka = kb ∧ ¬ (1 ≤ rule ∧ rule ≤ 6) ∧ r = I 12) ∨ (ka = kb ∧ (1 ≤ rule ∧ rule ≤ 6) ∧ r = I 0))) w := by
  refine e_sets_check rfl ?_
  refine cl (tree_k_spec ta) ?_
  rintro _ _ ⟨rfl, rfl⟩
  refine cl (tree_k_spec tb) ?_
  rintro _ _ ⟨rfl, rfl⟩
  refine ts (fun g => ?_) (fun g => ?_)
  · refine ts (fun g1 => ?_) (fun g1 => ?_)
    · exact ⟨rfl, .inr (.inl ⟨by omega, by omega, rfl⟩)⟩
    · refine ts (fun g2 => ?_) (fun g2 => ?_)
      · exact ⟨rfl, .inr (.inl ⟨by omega, by omega, rfl⟩)⟩
      · exact ⟨rfl, .inr (.inr ⟨by omega, by omega, rfl⟩)⟩
  · exact ⟨rfl, .inl ⟨by omega, rfl⟩⟩

theorem subset_dim {ka kb a b : Nat} {la lb : List Ent} {w : World} (ta : TreeRep w.heap a ka la) (tb : TreeRep w.heap b kb lb) (hk : ka ≠ kb) :
    CallK Try.prog F_sets_Subset [ptr a, ptr b] (fun r w' => Ext w w' ∧ r = .tuple #[.bool false, I 2]) w := by
  refine e_sets_Subset rfl ?_
  refine cl (sets_check_spec ta tb 1) ?_
  rintro _ _ ⟨rfl, ⟨-, rfl⟩ | ⟨h, -⟩ | ⟨h, -⟩⟩
  · refine tsF (by decide) ?_
    exact ⟨Ext.refl _, rfl⟩
  · exact absurd h hk
  · exact absurd h hk

/-- are all points of a list another one's? -/
def subB (l m : List Ent) : Bool := l.all fun e => (getL e.1 m).isSome

theorem subset_spec {k a b : Nat} {la lb : List Ent} {w : World} (ta : TreeRep w.heap a k la) (tb : TreeRep w.heap b k lb) (hl : la.length ≤ 100000) :
    CallK Try.prog F_sets_Subset [ptr a, ptr b] (fun r w' => Ext w w' ∧ r = .tuple #[.bool (subB la lb), I 0]) w := by
  refine e_sets_Subset rfl ?_
  refine cl (sets_check_spec ta tb 1) ?_
  rintro _ _ ⟨rfl, ⟨h, -⟩ | ⟨-, h, -⟩ | ⟨-, -, rfl⟩⟩
  · exact absurd rfl h
  · omega
  refine tsT rfl ?_
  refine cl (tree_root_h ta (HExt.refl _)) ?_
  rintro _ _ ⟨rfl, o, n, rfl, ho⟩
  refine cl (walk_all_spec ho (HExt.refl _) hl) ?_
  rintro _ w1 ⟨hx1, va, vcap, R, rfl, hrw, hR⟩
  have hRl := hR.len
  refine lp (fun j : Nat => [(1, ptr b), (20, .slice va la.length vcap), (21, I la.length), (22, I j)]) (fun j w' => Ext w1 w' ∧ j ≤ la.length ∧ subB (la.take j) lb = true) (fun j => la.length - j) 0 ⟨rfl, rfl, rfl, rfl, trivial⟩ ⟨Ext.refl _, Nat.zero_le _, rfl⟩ ?_
  rintro j e w2 ⟨hx2, hj, hsub⟩
  rcases Nat.lt_or_ge j la.length with h | h
  · obtain ⟨vb, vo, rfl, hcs⟩ := hrw.place (by omega)
    have hjR : j < R.length := by omega
    obtain ⟨hsl, hv⟩ := hR.ok j hjR h
    have hel : celsAt w2.heap ⟨vb, vo + j * 2, none⟩ (entV R[j]) := (hx2.1.cels hcs).sub (flat_elem entV_len R j hjR)
    obtain ⟨pa, pcap, hpf⟩ := (hsl.sl).form
    have hent : entV R[j] = [.slice pa la[j].1.length pcap, U R[j].2] := by unfold entV; rw [hpf]
    rw [hent] at hel
    rw [hpf] at hsl
    have hk : la[j].1.length = k := (ta.ok _ (List.getElem_mem h)).1
    refine tsT (show (j : Int) < (la.length : Nat) by omega) ?_
    refine ix rfl h ?_
    refine ldC hel rfl ?_
    refine al ?_
    intro nc w3 hnc hx3 hsz3 hblk3
    refine st hblk3 rfl rfl rfl ?_
    intro w4 u4
    have hx24 : Ext w2 w4 := hx3.upd (by omega) u4
    have h4 : w4.heap[nc]? = some (.cells #[.slice pa la[j].1.length pcap, U R[j].2] T_api_Entry (0, 0)) := u4.new
    refine ⟨by decide, ldB h4 rfl ?_⟩
    have hx14 := hx2.trans hx24
    refine cl (tree_get_spec (tb.ext (hx1.trans hx14).1) (hsl.sl.ext hx14.1) hk) ?_
    rintro _ w5 ⟨hx5, rfl⟩
    have hsnoc : ∀ t, (getL la[j].1 lb).isSome = t → subB (la.take (j + 1)) lb = t := fun t ht => by
      unfold subB at hsub ⊢
      rw [take_snoc la j h, List.all_append, hsub, Bool.true_and]
      simp [ht]
    cases hg : (getL la[j].1 lb).isSome with
    | true =>
      refine nm (inc64 (by omega)) ?_
      exact ⟨j + 1, ⟨⟨rfl, rfl, rfl, rfl, trivial⟩, hx14.trans hx5, h, hsnoc true hg⟩, by omega⟩
    | false =>
      refine ⟨(hx1.trans hx14).trans hx5, ?_⟩
      have h1 := hsnoc false hg
      have : subB la lb = false := by
        unfold subB at h1 ⊢
        rw [← List.take_append_drop (j + 1) la, List.all_append, h1, Bool.false_and]
      rw [this]
      rfl
  · have : j = la.length := by omega
    subst this
    refine tsF (show ¬ ((la.length : Nat) : Int) < (la.length : Nat) by omega) ?_
    rw [List.take_length] at hsub
    exact ⟨hx1.trans hx2, by rw [hsub]; rfl⟩

end Go.Proofs.Ytlpndcfkjkbeoaa

namespace Go.Proofs.Ytlpndcfkjkbeoaa
open Go Go.Pan

/-! ### nodes: what a list tells of its node -/

theorem NodeRep.lvl_le {h : Array Obj} {k b n m : Nat} {l : List Ent} (r : NodeRep h k b n l) (hs : ∀ e ∈ l, ∀ f ∈ l, shr m e.1 = shr m f.1) : n ≤ m := by
  rcases Nat.eq_zero_or_pos n with rfl | hn
  · exact Nat.zero_le _
  obtain ⟨L, rfl⟩ : ∃ L, n = L + 1 := ⟨n - 1, by omega⟩
  refine Nat.le_of_not_lt fun hm => ?_
  obtain ⟨pre, pv, sb, ms, -, -, -, hsl, h2, hL, hkids, hall, -⟩ := r.kids
  have hr := hsl.rising
  have h01 := hr.at_lt (i := 0) (j := 1) (by decide) (by omega)
  obtain ⟨n0, -, r0⟩ := hkids ms[0] (List.getElem_mem (by omega))
  obtain ⟨n1, -, r1⟩ := hkids ms[1] (List.getElem_mem (by omega))
  obtain ⟨e0, he0⟩ := List.exists_mem_of_ne_nil _ r0.ne
  obtain ⟨e1, he1⟩ := List.exists_mem_of_ne_nil _ r1.ne
  have m0 := mem_atA.1 he0
  have m1 := mem_atA.1 he1
  have := dig_up (hs e0 m0.1 e1 m1.1) (show m ≤ L by omega)
  rw [m0.2, m1.2] at this
  omega

theorem NodeRep.share {h : Array Obj} {k b n : Nat} {l : List Ent} (r : NodeRep h k b n l) {e f : Ent} (he : e ∈ l) (hf : f ∈ l) {m : Nat} (hm : n ≤ m) : shr m e.1 = shr m f.1 := by
  obtain ⟨_, pre, _, _, _, _, _, hpre, _⟩ := r.head.ex
  exact shr_up ((hpre e he).trans (hpre f hf).symm) hm

theorem NodeRep.n64 {h : Array Obj} {k b n : Nat} {l : List Ent} (r : NodeRep h k b n l) : n ≤ 64 := by
  obtain ⟨_, _, _, _, _, _, _, _, _, _, _, hn⟩ := r.head.ex
  exact hn

/-- a node (or nobody) by its list alone -/
def NodeL (h : Array Obj) (k : Nat) (o : Option Nat) (l : List Ent) : Prop := ∃ n, NodeO h k o n l
theorem NodeL.ext {h h' : Array Obj} (x : HExt h h') {k : Nat} {o : Option Nat} {l : List Ent} (r : NodeL h k o l) : NodeL h' k o l := by
  obtain ⟨n, hn⟩ := r
  exact ⟨n, hn.ext x⟩
theorem NodeL.nil (h : Array Obj) (k : Nat) : NodeL h k none [] := ⟨0, rfl⟩
theorem NodeL.srt {h : Array Obj} {k : Nat} {o : Option Nat} {l : List Ent} (r : NodeL h k o l) : Srt l := by
  obtain ⟨n, hn⟩ := r; exact hn.srt
theorem NodeL.ok {h : Array Obj} {k : Nat} {o : Option Nat} {l : List Ent} (r : NodeL h k o l) : ∀ e ∈ l, e.1.length = k ∧ small 64 e.1 ∧ e.2 < 2 ^ 64 := by
  obtain ⟨n, hn⟩ := r; exact hn.ok

theorem node_level_h {k b n : Nat} {l : List Ent} {w : World} {h0 : Array Obj} (r : NodeRep h0 k b n l) (x0 : HExt h0 w.heap) : CallK Try.prog F_node_Node_Level [ptr b] (fun r w' => w = w' ∧ r = I ((n : Int) - 1)) w := node_level_spec (r.ext x0)

/-- one more kid of a node at a level -/
theorem add_spec {k L : Nat} {o ok_ : Option Nat} {lo lk : List Ent} {w : World} (ro : NodeL w.heap k o lo) (rk : NodeL w.heap k ok_ lk) (hL : L < 64) {a : Nat} (ha : ∀ e ∈ lk, dig L e.1 = a) (hne : ∀ e ∈ lo, dig L e.1 ≠ a)
    (hsh : ∀ e, (e ∈ lo ∨ e ∈ lk) → ∀ f, (f ∈ lo ∨ f ∈ lk) → shr (L + 1) e.1 = shr (L + 1) f.1) :
    CallK Try.prog F_sets_add [ptrO o, I L, ptrO ok_] (fun r w' => Ext w w' ∧ ∃ o' l', r = ptrO o' ∧ NodeL w'.heap k o' l' ∧ ∀ e, e ∈ l' ↔ e ∈ lo ∨ e ∈ lk) w := by
  refine e_sets_add rfl ?_
  obtain ⟨no, hno⟩ := ro
  obtain ⟨nk, hnk⟩ := rk
  cases ok_ with
  | none =>
    have : lk = [] := hnk
    subst this
    exact ⟨Ext.refl _, o, lo, rfl, ⟨no, hno⟩, fun e => by simp⟩
  | some kb =>
    have rk : NodeRep w.heap k kb nk lk := hnk
    cases o with
    | none =>
      have : lo = [] := hno
      subst this
      exact ⟨Ext.refl _, some kb, lk, rfl, ⟨nk, rk⟩, fun e => by simp⟩
    | some b =>
      have r : NodeRep w.heap k b no lo := hno
      obtain ⟨f0, hf0⟩ := List.exists_mem_of_ne_nil _ rk.ne
      obtain ⟨e0, he0⟩ := List.exists_mem_of_ne_nil _ r.ne
      have hnk : nk ≤ L := rk.lvl_le fun e he f hf => shr_down (by rw [(rk.ok e he).1, (rk.ok f hf).1]) (hsh e (.inr he) f (.inr hf)) (by rw [ha e he, ha f hf])
      have hno1 : no ≤ L + 1 := r.lvl_le fun e he f hf => hsh e (.inl he) f (.inl hf)
      refine cl (node_level_spec r) ?_
      rintro _ _ ⟨rfl, rfl⟩
      refine ts (fun g => ?_) (fun g => ?_)
      · have hnoL : no ≤ L := by omega
        refine cl (pair_spec (L := L) (x := dig L e0.1) (y := a) r rk hL hnoL hnk (fun e he => dig_up (r.share he he0 hnoL) (Nat.le_refl _)) ha (hne e0 he0) (fun e he f hf => hsh e (.inl he) f (.inr hf))) ?_
        rintro _ w1 ⟨hx1, b', l', rfl, r', hm⟩
        exact ⟨hx1, some b', l', rfl, ⟨_, r'⟩, hm⟩
      · have hnoL : no = L + 1 := by omega
        subst hnoL
        refine cl (with_spec r rk hnk ha (fun e he f hf => hsh e (.inr he) f (.inl hf))) ?_
        rintro _ w1 ⟨hx1, b', l', rfl, r', hm⟩
        refine ⟨hx1, some b', l', rfl, ⟨_, r'⟩, fun e => ?_⟩
        rw [hm.mem e]
        exact ⟨fun h => h.elim .inr fun h => .inl h.1, fun h => h.elim (fun h => .inr ⟨h, hne e h⟩) .inl⟩

/-- one of them at least is nobody -/
theorem add_one_spec {k : Nat} {o ok_ : Option Nat} {lo lk : List Ent} {w : World} (ro : NodeL w.heap k o lo) (rk : NodeL w.heap k ok_ lk) (lv : Value) (h : o = none ∨ ok_ = none) :
    CallK Try.prog F_sets_add [ptrO o, lv, ptrO ok_] (fun r w' => w = w' ∧ ∃ o' l', r = ptrO o' ∧ NodeL w'.heap k o' l' ∧ ∀ e, e ∈ l' ↔ e ∈ lo ∨ e ∈ lk) w := by
  refine e_sets_add rfl ?_
  obtain ⟨no, hno⟩ := ro
  obtain ⟨nk, hnk⟩ := rk
  cases ok_ with
  | none =>
    have : lk = [] := hnk
    subst this
    exact ⟨rfl, o, lo, rfl, ⟨no, hno⟩, fun e => by simp⟩
  | some kb =>
    cases o with
    | none =>
      have : lo = [] := hno
      subst this
      exact ⟨rfl, some kb, lk, rfl, ⟨nk, hnk⟩, fun e => by simp⟩
    | some b => rcases h with h | h <;> cases h

/-- how two trees are put together -/
structure Jn where
  rule : Int
  left : Bool
  right : Bool
  both : Bool
abbrev jnV (J : Jn) : Value := .agg #[I J.rule, .bool J.left, .bool J.right, .bool J.both]

def jv (rule : Int) (x y : Nat) : Nat := if rule = 1 then x else if rule = 2 then y else if rule = 3 then min x y else if rule = 4 then max x y else if rule = 5 then (x + y) % 2 ^ 64 else max x y - min x y
theorem jv_lt (rule : Int) {x y : Nat} (hx : x < 2 ^ 64) (hy : y < 2 ^ 64) : jv rule x y < 2 ^ 64 := by
  unfold jv
  split
  · exact hx
  split
  · exact hy
  split
  · omega
  split
  · omega
  split
  · exact Nat.mod_lt _ (by decide)
  · omega

theorem value_spec (rule : Int) {x y : Nat} (hx : x < 2 ^ 64) (hy : y < 2 ^ 64) (w : World) : CallK Try.prog F_sets_value [I rule, U x, U y] (fun r w' => w = w' ∧ r = U (jv rule x y)) w := by
  have hmin : ∀ a b : Nat, (if (b : Int) < (a : Int) then (b : Int) else a) = ((min a b : Nat) : Int) := fun a b => by split <;> omega
  have hmax : ∀ a b : Nat, (if (a : Int) < (b : Int) then (b : Int) else a) = ((max a b : Nat) : Int) := fun a b => by split <;> omega
  unfold jv
  refine e_sets_value rfl ?_
  refine ts (fun g => ?_) (fun g => ?_)
  · rw [if_pos g]; exact ⟨rfl, rfl⟩
  rw [if_neg g]
  refine ts (fun g => ?_) (fun g => ?_)
  · rw [if_pos g]; exact ⟨rfl, rfl⟩
  rw [if_neg g]
  refine ts (fun g => ?_) (fun g => ?_)
  · rw [if_pos g]
    refine nm (hmin x y) ?_
    exact ⟨rfl, rfl⟩
  rw [if_neg g]
  refine ts (fun g => ?_) (fun g => ?_)
  · rw [if_pos g]
    refine nm (hmax x y) ?_
    exact ⟨rfl, rfl⟩
  rw [if_neg g]
  refine ts (fun g => ?_) (fun g => ?_)
  · rw [if_pos g]
    refine nm (add_u64 x y) ?_
    exact ⟨rfl, rfl⟩
  rw [if_neg g]
  refine nm (hmax x y) ?_
  refine nm (hmin x y) ?_
  refine nm (v := ((max x y - min x y : Nat) : Int)) (wru64 (by omega) (by omega) (by omega)) ?_
  exact ⟨rfl, rfl⟩

theorem jside_spec (v : Value) (t : Bool) (w : World) : CallK Try.prog F_sets_side [v, .bool t] (fun r w' => w = w' ∧ r = if t = true then v else nilp) w := by
  refine e_sets_side rfl ?_
  cases t with
  | true => exact ⟨rfl, rfl⟩
  | false => exact ⟨rfl, rfl⟩

end Go.Proofs.Ytlpndcfkjkbeoaa

namespace Go.Proofs.Ytlpndcfkjkbeoaa
open Go Go.Pan

/-! ### sets: entry, inner -/

/-- what two lists put together are -/
def jo (J : Jn) (la lb : List Ent) (e : Ent) : Prop :=
  (J.left = true ∧ e ∈ la ∧ ∀ f ∈ lb, f.1 ≠ e.1) ∨ (J.right = true ∧ e ∈ lb ∧ ∀ f ∈ la, f.1 ≠ e.1) ∨ (J.both = true ∧ ∃ x y, (e.1, x) ∈ la ∧ (e.1, y) ∈ lb ∧ e.2 = jv J.rule x y)

theorem jentry_spec {k a b x y : Nat} {p : List Nat} {pa : Option Addr} {pn pcap : Nat} {w : World} (J : Jn) (ra : NodeRep w.heap k a 0 [(p, x)]) (rb : NodeRep w.heap k b 0 [(p, y)]) (hp : Sl w.heap (.slice pa pn pcap) p) :
    CallK Try.prog F_sets_joiner_entry [jnV J, ptr a, .agg #[.slice pa pn pcap, U x], ptr b] (fun r w' => Ext w w' ∧ ∃ o l', r = ptrO o ∧ NodeL w'.heap k o l' ∧ ∀ e, e ∈ l' ↔ J.both = true ∧ e = (p, jv J.rule x y)) w := by
  obtain ⟨rule, left, right, both⟩ := J
  have hk := ra.k1
  have hpk : p.length = k := (ra.ok _ (.head _)).1
  have hx : x < 2 ^ 64 := (ra.ok _ (.head _)).2.2
  have hy : y < 2 ^ 64 := (rb.ok _ (.head _)).2.2
  refine e_sets_joiner_entry rfl ?_
  refine al ?_
  intro n1 w1 hn1 hx1 hsz1 hb1
  refine al ?_
  intro n2 w2 hn2 hx2 hsz2 hb2
  have hb1' : w1.heap[n1]? = some (.cells #[I rule, .bool left, .bool right, .bool both] T_sets_joiner (0, 0)) := hb1
  have hb2' : w2.heap[n2]? = some (.cells #[.slice pa pn pcap, U x] T_api_Entry (0, 0)) := hb2
  have hx12 : Ext w w2 := hx1.trans hx2
  refine ⟨by decide, ldB (hx2.blk hb1') rfl ?_⟩
  cases both with
  | false => exact ⟨hx12, none, [], rfl, NodeL.nil _ _, fun e => by simp⟩
  | true =>
    refine cl (node_entry_spec (rb.ext hx12.1)) ?_
    rintro re w3 ⟨hx3, ⟨h, -⟩ | ⟨-, p', y', pv, he, rfl, hfr⟩⟩
    · omega
    have hpy : p' = p ∧ y' = y := by
      have := (List.cons.inj he).1
      exact ⟨(congrArg Prod.fst this).symm, (congrArg Prod.snd this).symm⟩
    obtain ⟨rfl, rfl⟩ := hpy
    obtain ⟨cb, cap, rest, rfl, hcb, hcblk⟩ := hfr.own
    refine al ?_
    intro n4 w4 hn4 hx4 hsz4 hb4
    refine st hb4 rfl rfl rfl ?_
    intro w5 u5
    have hx25 : Ext w2 w5 := (hx3.trans hx4).upd (by have := hx3.1.1; omega) u5
    have h5 : w5.heap[n4]? = some (.cells #[.slice (some ⟨cb, 0, none⟩) p'.length cap, U y'] T_api_Entry (0, 0)) := u5.new
    refine ⟨by decide, ldB ((hx2.trans hx25).blk hb1') rfl ?_⟩
    refine ⟨by decide, ldB (hx25.blk hb2') rfl ?_⟩
    refine ⟨by decide, ldB h5 rfl ?_⟩
    refine cl (value_spec rule hx hy w5) ?_
    rintro _ _ ⟨rfl, rfl⟩
    refine ⟨by decide, ldB (hx25.blk hb2') rfl ?_⟩
    have hx05 := hx12.trans hx25
    refine ts (fun g => ?_) (fun g => ?_)
    · have : jv rule x y' = x := by omega
      refine ⟨hx05, some a, [(p', x)], rfl, ⟨0, ra.ext hx05.1⟩, fun e => ?_⟩
      simp only [List.mem_singleton, true_and]
      rw [this]
    · refine ⟨by decide, ldB (hx25.blk hb2') rfl ?_⟩
      refine cl (leaf_spec (hp.ext hx05.1) (by omega) (by omega) (jv_lt rule hx hy)) ?_
      rintro _ w6 ⟨hx6, c, rfl, rc⟩
      rw [hpk] at rc
      refine ⟨hx05.trans hx6, some c, _, rfl, ⟨0, rc⟩, fun e => ?_⟩
      simp only [List.mem_singleton, true_and]

theorem inner_spec {k b L : Nat} {l lk : List Ent} {ok_ : Option Nat} {w : World} (J : Jn) (stays : Bool) {a : Nat} (r : NodeRep w.heap k b (L + 1) l) (rk : NodeL w.heap k ok_ lk) (ha : ∀ e ∈ lk, dig L e.1 = a) (hsh : ∀ e ∈ lk, ∀ f ∈ l, shr (L + 1) e.1 = shr (L + 1) f.1) :
    CallK Try.prog F_sets_joiner_inner [jnV J, ptr b, .bool stays, I a, ptrO ok_] (fun r w' => Ext w w' ∧ ∃ o l', r = ptrO o ∧ NodeL w'.heap k o l' ∧ ∀ e, e ∈ l' ↔ e ∈ lk ∨ (stays = true ∧ e ∈ l ∧ dig L e.1 ≠ a)) w := by
  obtain ⟨rule, left, right, both⟩ := J
  refine e_sets_joiner_inner rfl ?_
  refine al ?_
  intro n1 w1 hn1 hx1 hsz1 hb1
  cases stays with
  | false => exact ⟨hx1, ok_, lk, rfl, rk.ext hx1.1, fun e => by simp⟩
  | true =>
    cases ok_ with
    | some kb =>
      obtain ⟨nk, hnk⟩ := rk
      have rk : NodeRep w.heap k kb nk lk := hnk
      have hnk : nk ≤ L := rk.lvl_le fun e he f hf => by
        obtain ⟨f0, hf0⟩ := List.exists_mem_of_ne_nil _ r.ne
        exact shr_down (by rw [(rk.ok e he).1, (rk.ok f hf).1]) ((hsh e he f0 hf0).trans (hsh f hf f0 hf0).symm) (by rw [ha e he, ha f hf])
      refine cl (with_spec (r.ext hx1.1) (rk.ext hx1.1) hnk ha hsh) ?_
      rintro _ w2 ⟨hx2, b', l', rfl, r', hm⟩
      refine ⟨hx1.trans hx2, some b', l', rfl, ⟨_, r'⟩, fun e => ?_⟩
      rw [hm.mem e]
      simp
    | none =>
      obtain ⟨nk, hnk⟩ := rk
      have : lk = [] := hnk
      subst this
      refine cl (kid_spec r hx1.1 a) ?_
      rintro _ w2 ⟨hx2, o, n', rfl, hn', ho⟩
      have hx12 := hx1.trans hx2
      cases o with
      | none =>
        have hnil : atA L a l = [] := ho
        refine ⟨hx12, some b, l, rfl, ⟨_, r.ext hx12.1⟩, fun e => ?_⟩
        constructor
        · intro he
          refine .inr ⟨rfl, he, fun h => ?_⟩
          have : e ∈ atA L a l := mem_atA.2 ⟨he, h⟩
          rw [hnil] at this; cases this
        · rintro (h | ⟨-, h, -⟩)
          · cases h
          · exact h
      | some kb =>
        have rk : NodeRep w.heap k kb n' (atA L a l) := ho
        obtain ⟨e0, he0⟩ := List.exists_mem_of_ne_nil _ rk.ne
        have hm0 := mem_atA.1 he0
        refine cl (without_spec (r.ext hx12.1) ⟨e0, hm0.1, hm0.2⟩) ?_
        rintro _ w3 ⟨hx3, b', n2, l', rfl, hn2, r', hm⟩
        refine ⟨hx12.trans hx3, some b', l', rfl, ⟨_, r'⟩, fun e => ?_⟩
        rw [hm.mem e]
        simp

end Go.Proofs.Ytlpndcfkjkbeoaa

namespace Go.Proofs.Ytlpndcfkjkbeoaa
open Go Go.Pan

/-! ### sets: kids, join -/

theorem jo_at {J : Jn} {la lb : List Ent} {L c : Nat} {e : Ent} : jo J (atA L c la) (atA L c lb) e ↔ jo J la lb e ∧ dig L e.1 = c := by
  unfold jo
  simp only [mem_atA]
  constructor
  · rintro (⟨h1, ⟨h2, h3⟩, h4⟩ | ⟨h1, ⟨h2, h3⟩, h4⟩ | ⟨h1, x, y, ⟨h2, h3⟩, ⟨h4, h5⟩, h6⟩)
    · exact ⟨.inl ⟨h1, h2, fun f hf he => h4 f ⟨hf, by rw [he]; exact h3⟩ he⟩, h3⟩
    · exact ⟨.inr (.inl ⟨h1, h2, fun f hf he => h4 f ⟨hf, by rw [he]; exact h3⟩ he⟩), h3⟩
    · exact ⟨.inr (.inr ⟨h1, x, y, h2, h4, h6⟩), h3⟩
  · rintro ⟨⟨h1, h2, h4⟩ | ⟨h1, h2, h4⟩ | ⟨h1, x, y, h2, h4, h6⟩, h3⟩
    · exact .inl ⟨h1, ⟨h2, h3⟩, fun f hf => h4 f hf.1⟩
    · exact .inr (.inl ⟨h1, ⟨h2, h3⟩, fun f hf => h4 f hf.1⟩)
    · exact .inr (.inr ⟨h1, x, y, ⟨h2, h3⟩, ⟨h4, h3⟩, h6⟩)
theorem jo_dig {J : Jn} {la lb : List Ent} {e : Ent} (h : jo J la lb e) : ∃ f, (f ∈ la ∨ f ∈ lb) ∧ f.1 = e.1 := by
  rcases h with ⟨-, h, -⟩ | ⟨-, h, -⟩ | ⟨-, x, y, h, -⟩
  · exact ⟨e, .inl h, rfl⟩
  · exact ⟨e, .inr h, rfl⟩
  · exact ⟨_, .inl h, rfl⟩

/-- what join does, of nodes whose levels together are below a number -/
def JoinOk (J : Jn) (k M : Nat) : Prop := ∀ {h0 : Array Obj} {oa ob : Option Nat} {na nb : Nat} {la lb : List Ent} {w : World}, NodeO h0 k oa na la → NodeO h0 k ob nb lb → (oa = none → na = 0) → (ob = none → nb = 0) → HExt h0 w.heap → na + nb < M →
  CallK Try.prog F_sets_joiner_join [jnV J, ptrO oa, ptrO ob] (fun r w' => Ext w w' ∧ ∃ o l', r = ptrO o ∧ NodeL w'.heap k o l' ∧ ∀ e, e ∈ l' ↔ jo J la lb e) w

theorem kidAt_none {h : Array Obj} {k L c a : Nat} {l : List Ent} (hk : KidAt h k L l c none) (hca : c ≤ a) : atA L a l = [] :=
  List.filter_eq_nil_iff.2 fun e he => by have := hk e he; simp only [decide_eq_true_eq]; omega
theorem kidAt_gap {h : Array Obj} {k L c a a' p n' : Nat} {l : List Ent} (hk : KidAt h k L l c (some (a', p, n'))) (hca : c ≤ a) (ha : a < a') : atA L a l = [] :=
  List.filter_eq_nil_iff.2 fun e he => by
    have := hk.2.2.2.2 e he
    simp only [decide_eq_true_eq]
    intro h
    have := this (by omega)
    omega

/-- one more address is done -/
theorem jo_next {J : Jn} {la lb lo lj l' : List Ent} {L c a : Nat} (hlo : ∀ e, e ∈ lo ↔ jo J la lb e ∧ dig L e.1 < c) (hlj : ∀ e, e ∈ lj ↔ jo J (atA L a la) (atA L a lb) e) (hl : ∀ e, e ∈ l' ↔ e ∈ lo ∨ e ∈ lj) (hca : c ≤ a)
    (ga : ∀ e ∈ la, dig L e.1 < a → dig L e.1 < c) (gb : ∀ e ∈ lb, dig L e.1 < a → dig L e.1 < c) : ∀ e, e ∈ l' ↔ jo J la lb e ∧ dig L e.1 < a + 1 := fun e => by
  rw [hl, hlo, hlj, jo_at]
  constructor
  · rintro (⟨h1, h2⟩ | ⟨h1, h2⟩)
    · exact ⟨h1, by omega⟩
    · exact ⟨h1, by omega⟩
  · rintro ⟨h1, h2⟩
    rcases Nat.lt_or_ge (dig L e.1) a with g | g
    · obtain ⟨f, hf, hfe⟩ := jo_dig h1
      rw [← hfe] at g ⊢
      exact .inl ⟨h1, hf.elim (fun h => ga f h g) (fun h => gb f h g)⟩
    · exact .inr ⟨h1, by omega⟩

theorem node_level_L {k b L : Nat} {l : List Ent} {w : World} {h0 : Array Obj} (r : NodeRep h0 k b (L + 1) l) (x0 : HExt h0 w.heap) : CallK Try.prog F_node_Node_Level [ptr b] (fun r w' => w = w' ∧ r = I L) w :=
  (node_level_h r x0).mono fun _ _ ⟨h1, h2⟩ => ⟨h1, by rw [h2, show ((L + 1 : Nat) : Int) - 1 = L from by omega]⟩

theorem NodeO.lst {h : Array Obj} {k n : Nat} {o : Option Nat} {l : List Ent} (r : NodeO h k o n l) : NodeL h k o l := ⟨n, r⟩

set_option maxHeartbeats 2000000 in
set_option maxRecDepth 100000 in
theorem jkids_spec {J : Jn} {k M : Nat} (IH : JoinOk J k M) {a b L : Nat} {la lb : List Ent} {w : World} {h0 : Array Obj} (ra : NodeRep h0 k a (L + 1) la) (rb : NodeRep h0 k b (L + 1) lb) (x0 : HExt h0 w.heap) (hsh : ∀ e ∈ la, ∀ f ∈ lb, shr (L + 1) e.1 = shr (L + 1) f.1) (hM : L + L < M) :
    CallK Try.prog F_sets_joiner_kids [jnV J, ptr a, ptr b] (fun r w' => Ext w w' ∧ ∃ o l', r = ptrO o ∧ NodeL w'.heap k o l' ∧ ∀ e, e ∈ l' ↔ jo J la lb e) w := by
  obtain ⟨rule, left, right, both⟩ := J
  have hk16 := ra.k1
  have h16 : (2 : Nat) ^ k ≤ 2 ^ 16 := Nat.pow_le_pow_right (by decide) hk16.2
  have hL := ra.lvl
  obtain ⟨f0, hf0⟩ := List.exists_mem_of_ne_nil _ rb.ne
  have hall : ∀ e, (e ∈ la ∨ e ∈ lb) → shr (L + 1) e.1 = shr (L + 1) f0.1 := fun e he => he.elim (fun h => hsh e h f0 hf0) (fun h => rb.share h hf0 (Nat.le_refl _))
  refine e_sets_joiner_kids rfl ?_
  refine al ?_
  intro n1 w1 hn1 hx1 hsz1 hb1
  have hb1' : w1.heap[n1]? = some (.cells #[I rule, .bool left, .bool right, .bool both] T_sets_joiner (0, 0)) := hb1
  refine jls (ps := [_, _]) (sc := sc_sets_joiner_kids) tt_ok hmix 0 rfl (by kernel_rfl) (by kernel_rfl) (by kernel_rfl) (fun _ _ _ h => h)
    (fun s : Nat × Option Nat × List Ent => [(1, ptr a), (2, ptr b), (3, ptr n1), (7, ptrO s.2.1), (8, I s.1)])
    (fun s w' => Ext w1 w' ∧ NodeL w'.heap k s.2.1 s.2.2 ∧ s.1 ≤ 2 ^ k ∧ ∀ e, e ∈ s.2.2 ↔ jo ⟨rule, left, right, both⟩ la lb e ∧ dig L e.1 < s.1) (fun s => 2 ^ k - s.1) ?_ ?_
  · exact ⟨(0, none, []), ⟨rfl, rfl, rfl, rfl, rfl, trivial⟩, Ext.refl _, NodeL.nil _ _, Nat.zero_le _, fun e => by simp⟩
  rintro ⟨c, o, lo⟩ e0 w2 ⟨hx2, ro, hc, hlo⟩
  simp only at ro hc hlo
  have hx02 : Ext w w2 := hx1.trans hx2
  refine cl (from_at_spec ra (x0.trans hx02.1) (c := c) rfl) ?_
  rintro _ w3 ⟨hx3, oa, rfl, hka⟩
  refine cl (from_at_spec rb (x0.trans (hx02.trans hx3).1) (c := c) rfl) ?_
  rintro _ w4 ⟨hx4, ob, rfl, hkb⟩
  have hx24 : Ext w2 w4 := hx3.trans hx4
  have hx14 : Ext w1 w4 := hx2.trans hx24
  have x4 : HExt h0 w4.heap := x0.trans (hx1.trans hx14).1
  cases oa with
  | none =>
    cases ob with
    | none =>
      refine ⟨hx1.trans hx14, o, lo, rfl, ro.ext hx24.1, fun e => ?_⟩
      rw [hlo]
      constructor
      · exact fun h => h.1
      · intro h
        obtain ⟨f, hf, hfe⟩ := jo_dig h
        exact ⟨h, by rw [← hfe]; exact hf.elim (hka f) (hkb f)⟩
    | some sb =>
      obtain ⟨j, y, ny⟩ := sb
      obtain ⟨hcj, hjk, hny, ry, hlb⟩ := hkb
      have hnx := kidAt_none hka hcj
      refine nm (v := ((j + 1 : Nat) : Int)) (wr64 (by simp) (by omega) (by omega)) ?_
      refine ldC (cs := [I rule, .bool left, .bool right, .bool both]) (celsAt_blk (o := 0) (hx14.blk hb1') rfl) rfl ?_
      refine cl (node_level_L (w := drw w4) ra x4) ?_
      rintro _ _ ⟨rfl, rfl⟩
      refine ⟨Ext.refl _, ?_⟩
      refine cl (IH (w := drw w4) (oa := none) (na := 0) (la := atA L j la) (ob := some y) (nb := ny) (lb := atA L j lb) hnx (ry) (fun h => by first | rfl | cases h) (fun h => by first | rfl | cases h) x4 (by omega)) ?_
      rintro _ w5 ⟨hx5, oj, lj, rfl, rj, hlj⟩
      have hx5' : Ext w4 w5 := hx5
      refine ⟨hx5, ?_⟩
      have hjd : ∀ e ∈ lj, dig L e.1 = j := fun e he => (jo_at.1 ((hlj e).1 he)).2
      have hod : ∀ e ∈ lo, dig L e.1 ≠ j := fun e he => by have := ((hlo e).1 he).2; omega
      have hsh2 : ∀ e, (e ∈ lo ∨ e ∈ lj) → shr (L + 1) e.1 = shr (L + 1) f0.1 := fun e he => by
        have hj : jo ⟨rule, left, right, both⟩ la lb e := he.elim (fun h => ((hlo e).1 h).1) (fun h => (jo_at.1 ((hlj e).1 h)).1)
        obtain ⟨f, hf, hfe⟩ := jo_dig hj
        rw [← hfe]; exact hall f hf
      refine cl (add_spec (ro.ext (hx24.trans hx5').1) rj hL hjd hod (fun e he f hf => (hsh2 e he).trans (hsh2 f hf).symm)) ?_
      rintro _ w6 ⟨hx6, o', l', rfl, r', hl'⟩
      refine ⟨hx5'.trans hx6, ?_⟩
      exact ⟨rfl, (j + 1, o', l'), ⟨⟨rfl, rfl, rfl, rfl, rfl, trivial⟩, (hx14.trans hx5').trans hx6, r', by simp only; omega, jo_next hlo hlj hl' (by omega) (fun e he g => hka e he) (hlb)⟩, by simp only; omega⟩
  | some sa =>
    obtain ⟨i, x, nx⟩ := sa
    obtain ⟨hci, hik, hnx, rx, hla⟩ := hka
    cases ob with
    | none =>
      have hny := kidAt_none hkb hci
      refine nm (v := ((i + 1 : Nat) : Int)) (wr64 (by simp) (by omega) (by omega)) ?_
      refine ldC (cs := [I rule, .bool left, .bool right, .bool both]) (celsAt_blk (o := 0) (hx14.blk hb1') rfl) rfl ?_
      refine cl (node_level_L (w := drw w4) ra x4) ?_
      rintro _ _ ⟨rfl, rfl⟩
      refine ⟨Ext.refl _, ?_⟩
      refine cl (IH (w := drw w4) (oa := some x) (na := nx) (la := atA L i la) (ob := none) (nb := 0) (lb := atA L i lb) (rx) (hny) (fun h => by first | rfl | cases h) (fun h => by first | rfl | cases h) x4 (by omega)) ?_
      rintro _ w5 ⟨hx5, oj, lj, rfl, rj, hlj⟩
      have hx5' : Ext w4 w5 := hx5
      refine ⟨hx5, ?_⟩
      have hjd : ∀ e ∈ lj, dig L e.1 = i := fun e he => (jo_at.1 ((hlj e).1 he)).2
      have hod : ∀ e ∈ lo, dig L e.1 ≠ i := fun e he => by have := ((hlo e).1 he).2; omega
      have hsh2 : ∀ e, (e ∈ lo ∨ e ∈ lj) → shr (L + 1) e.1 = shr (L + 1) f0.1 := fun e he => by
        have hj : jo ⟨rule, left, right, both⟩ la lb e := he.elim (fun h => ((hlo e).1 h).1) (fun h => (jo_at.1 ((hlj e).1 h)).1)
        obtain ⟨f, hf, hfe⟩ := jo_dig hj
        rw [← hfe]; exact hall f hf
      refine cl (add_spec (ro.ext (hx24.trans hx5').1) rj hL hjd hod (fun e he f hf => (hsh2 e he).trans (hsh2 f hf).symm)) ?_
      rintro _ w6 ⟨hx6, o', l', rfl, r', hl'⟩
      refine ⟨hx5'.trans hx6, ?_⟩
      exact ⟨rfl, (i + 1, o', l'), ⟨⟨rfl, rfl, rfl, rfl, rfl, trivial⟩, (hx14.trans hx5').trans hx6, r', by simp only; omega, jo_next hlo hlj hl' (by omega) (hla) (fun e he g => hkb e he)⟩, by simp only; omega⟩
    | some sb =>
      obtain ⟨j, y, ny⟩ := sb
      obtain ⟨hcj, hjk, hny, ry, hlb⟩ := hkb
      rcases Nat.lt_trichotomy i j with hij | hij | hij
      · have hgap : atA L i lb = [] := kidAt_gap (show KidAt h0 k L lb c (some (j, y, ny)) from ⟨hcj, hjk, hny, ry, hlb⟩) hci hij
        refine tsT (show (i : Int) < (j : Nat) by omega) ?_
        refine nm (v := ((i + 1 : Nat) : Int)) (wr64 (by simp) (by omega) (by omega)) ?_
        refine ldC (cs := [I rule, .bool left, .bool right, .bool both]) (celsAt_blk (o := 0) (hx14.blk hb1') rfl) rfl ?_
        refine cl (node_level_L (w := drw w4) ra x4) ?_
        rintro _ _ ⟨rfl, rfl⟩
        refine ⟨Ext.refl _, ?_⟩
        refine cl (IH (w := drw w4) (oa := some x) (na := nx) (la := atA L i la) (ob := none) (nb := 0) (lb := atA L i lb) (rx) (hgap) (fun h => by first | rfl | cases h) (fun h => by first | rfl | cases h) x4 (by omega)) ?_
        rintro _ w5 ⟨hx5, oj, lj, rfl, rj, hlj⟩
        have hx5' : Ext w4 w5 := hx5
        refine ⟨hx5, ?_⟩
        have hjd : ∀ e ∈ lj, dig L e.1 = i := fun e he => (jo_at.1 ((hlj e).1 he)).2
        have hod : ∀ e ∈ lo, dig L e.1 ≠ i := fun e he => by have := ((hlo e).1 he).2; omega
        have hsh2 : ∀ e, (e ∈ lo ∨ e ∈ lj) → shr (L + 1) e.1 = shr (L + 1) f0.1 := fun e he => by
          have hj : jo ⟨rule, left, right, both⟩ la lb e := he.elim (fun h => ((hlo e).1 h).1) (fun h => (jo_at.1 ((hlj e).1 h)).1)
          obtain ⟨f, hf, hfe⟩ := jo_dig hj
          rw [← hfe]; exact hall f hf
        refine cl (add_spec (ro.ext (hx24.trans hx5').1) rj hL hjd hod (fun e he f hf => (hsh2 e he).trans (hsh2 f hf).symm)) ?_
        rintro _ w6 ⟨hx6, o', l', rfl, r', hl'⟩
        refine ⟨hx5'.trans hx6, ?_⟩
        exact ⟨rfl, (i + 1, o', l'), ⟨⟨rfl, rfl, rfl, rfl, rfl, trivial⟩, (hx14.trans hx5').trans hx6, r', by simp only; omega, jo_next hlo hlj hl' (by omega) (hla) (fun e he g => hlb e he (by omega))⟩, by simp only; omega⟩
      · subst hij
        refine tsF (show ¬ (i : Int) < (i : Nat) by omega) ?_
        refine tsF (show ¬ (i : Int) < (i : Nat) by omega) ?_
        refine nm (v := ((i + 1 : Nat) : Int)) (wr64 (by simp) (by omega) (by omega)) ?_
        refine ldC (cs := [I rule, .bool left, .bool right, .bool both]) (celsAt_blk (o := 0) (hx14.blk hb1') rfl) rfl ?_
        refine cl (node_level_L (w := drw w4) ra x4) ?_
        rintro _ _ ⟨rfl, rfl⟩
        refine ⟨Ext.refl _, ?_⟩
        refine cl (IH (w := drw w4) (oa := some x) (na := nx) (la := atA L i la) (ob := some y) (nb := ny) (lb := atA L i lb) (rx) (ry) (fun h => by first | rfl | cases h) (fun h => by first | rfl | cases h) x4 (by omega)) ?_
        rintro _ w5 ⟨hx5, oj, lj, rfl, rj, hlj⟩
        have hx5' : Ext w4 w5 := hx5
        refine ⟨hx5, ?_⟩
        have hjd : ∀ e ∈ lj, dig L e.1 = i := fun e he => (jo_at.1 ((hlj e).1 he)).2
        have hod : ∀ e ∈ lo, dig L e.1 ≠ i := fun e he => by have := ((hlo e).1 he).2; omega
        have hsh2 : ∀ e, (e ∈ lo ∨ e ∈ lj) → shr (L + 1) e.1 = shr (L + 1) f0.1 := fun e he => by
          have hj : jo ⟨rule, left, right, both⟩ la lb e := he.elim (fun h => ((hlo e).1 h).1) (fun h => (jo_at.1 ((hlj e).1 h)).1)
          obtain ⟨f, hf, hfe⟩ := jo_dig hj
          rw [← hfe]; exact hall f hf
        refine cl (add_spec (ro.ext (hx24.trans hx5').1) rj hL hjd hod (fun e he f hf => (hsh2 e he).trans (hsh2 f hf).symm)) ?_
        rintro _ w6 ⟨hx6, o', l', rfl, r', hl'⟩
        refine ⟨hx5'.trans hx6, ?_⟩
        exact ⟨rfl, (i + 1, o', l'), ⟨⟨rfl, rfl, rfl, rfl, rfl, trivial⟩, (hx14.trans hx5').trans hx6, r', by simp only; omega, jo_next hlo hlj hl' (by omega) (hla) (hlb)⟩, by simp only; omega⟩
      · have hgap : atA L j la = [] := kidAt_gap (show KidAt h0 k L la c (some (i, x, nx)) from ⟨hci, hik, hnx, rx, hla⟩) hcj hij
        refine tsF (show ¬ (i : Int) < (j : Nat) by omega) ?_
        refine tsT (show (j : Int) < (i : Nat) by omega) ?_
        refine nm (v := ((j + 1 : Nat) : Int)) (wr64 (by simp) (by omega) (by omega)) ?_
        refine ldC (cs := [I rule, .bool left, .bool right, .bool both]) (celsAt_blk (o := 0) (hx14.blk hb1') rfl) rfl ?_
        refine cl (node_level_L (w := drw w4) ra x4) ?_
        rintro _ _ ⟨rfl, rfl⟩
        refine ⟨Ext.refl _, ?_⟩
        refine cl (IH (w := drw w4) (oa := none) (na := 0) (la := atA L j la) (ob := some y) (nb := ny) (lb := atA L j lb) (hgap) (ry) (fun h => by first | rfl | cases h) (fun h => by first | rfl | cases h) x4 (by omega)) ?_
        rintro _ w5 ⟨hx5, oj, lj, rfl, rj, hlj⟩
        have hx5' : Ext w4 w5 := hx5
        refine ⟨hx5, ?_⟩
        have hjd : ∀ e ∈ lj, dig L e.1 = j := fun e he => (jo_at.1 ((hlj e).1 he)).2
        have hod : ∀ e ∈ lo, dig L e.1 ≠ j := fun e he => by have := ((hlo e).1 he).2; omega
        have hsh2 : ∀ e, (e ∈ lo ∨ e ∈ lj) → shr (L + 1) e.1 = shr (L + 1) f0.1 := fun e he => by
          have hj : jo ⟨rule, left, right, both⟩ la lb e := he.elim (fun h => ((hlo e).1 h).1) (fun h => (jo_at.1 ((hlj e).1 h)).1)
          obtain ⟨f, hf, hfe⟩ := jo_dig hj
          rw [← hfe]; exact hall f hf
        refine cl (add_spec (ro.ext (hx24.trans hx5').1) rj hL hjd hod (fun e he f hf => (hsh2 e he).trans (hsh2 f hf).symm)) ?_
        rintro _ w6 ⟨hx6, o', l', rfl, r', hl'⟩
        refine ⟨hx5'.trans hx6, ?_⟩
        exact ⟨rfl, (j + 1, o', l'), ⟨⟨rfl, rfl, rfl, rfl, rfl, trivial⟩, (hx14.trans hx5').trans hx6, r', by simp only; omega, jo_next hlo hlj hl' (by omega) (fun e he g => hla e he (by omega)) (hlb)⟩, by simp only; omega⟩

end Go.Proofs.Ytlpndcfkjkbeoaa

namespace Go.Proofs.Ytlpndcfkjkbeoaa
open Go Go.Pan

theorem jside_o (o : Option Nat) (t : Bool) (w : World) : CallK Try.prog F_sets_side [ptrO o, .bool t] (fun r w' => w = w' ∧ r = ptrO (if t = true then o else none)) w :=
  (jside_spec (ptrO o) t w).mono fun r w' ⟨h1, h2⟩ => ⟨h1, by cases t <;> exact h2⟩

theorem jo_nil_left {J : Jn} {lb : List Ent} {e : Ent} : jo J [] lb e ↔ J.right = true ∧ e ∈ lb := by
  unfold jo; simp
theorem jo_nil_right {J : Jn} {la : List Ent} {e : Ent} : jo J la [] e ↔ J.left = true ∧ e ∈ la := by
  unfold jo; simp
theorem jo_apart {J : Jn} {la lb : List Ent} (h : ∀ e ∈ la, ∀ f ∈ lb, e.1 ≠ f.1) {e : Ent} : jo J la lb e ↔ (J.left = true ∧ e ∈ la) ∨ (J.right = true ∧ e ∈ lb) := by
  unfold jo
  constructor
  · rintro (⟨h1, h2, -⟩ | ⟨h1, h2, -⟩ | ⟨-, x, y, h2, h3, -⟩)
    · exact .inl ⟨h1, h2⟩
    · exact .inr ⟨h1, h2⟩
    · exact absurd rfl (h (e.1, x) h2 (e.1, y) h3)
  · rintro (⟨h1, h2⟩ | ⟨h1, h2⟩)
    · exact .inl ⟨h1, h2, fun f hf he => h e h2 f hf he.symm⟩
    · exact .inr (.inl ⟨h1, h2, fun f hf he => h f hf e h2 he⟩)
theorem jo_leaf {J : Jn} {p : List Nat} {x y : Nat} {e : Ent} : jo J [(p, x)] [(p, y)] e ↔ J.both = true ∧ e = (p, jv J.rule x y) := by
  unfold jo
  simp only [List.mem_singleton]
  constructor
  · rintro (⟨-, rfl, h⟩ | ⟨-, rfl, h⟩ | ⟨h1, x', y', h2, h3, h4⟩)
    · exact absurd rfl (h (p, y) rfl)
    · exact absurd rfl (h (p, x) rfl)
    · cases h2
      have : y' = y := congrArg Prod.snd h3
      subst this
      exact ⟨h1, Prod.ext rfl h4⟩
  · rintro ⟨h1, rfl⟩
    exact .inr (.inr ⟨h1, x, y, rfl, rfl, rfl⟩)
theorem jo_left {J : Jn} {la lb lj l' : List Ent} {L a : Nat} (hb : ∀ f ∈ lb, dig L f.1 = a) (hlj : ∀ e, e ∈ lj ↔ jo J (atA L a la) lb e) (hl : ∀ e, e ∈ l' ↔ e ∈ lj ∨ (J.left = true ∧ e ∈ la ∧ dig L e.1 ≠ a)) : (∀ e ∈ lj, dig L e.1 = a) ∧ ∀ e, e ∈ l' ↔ jo J la lb e := by
  have hlb : lb = atA L a lb := (List.filter_eq_self.2 fun f hf => by simpa using hb f hf).symm
  have h1 : ∀ e, e ∈ lj ↔ jo J la lb e ∧ dig L e.1 = a := fun e => by rw [hlj]; conv => lhs; rw [hlb]
                                                                      exact jo_at
  refine ⟨fun e he => ((h1 e).1 he).2, fun e => ?_⟩
  rw [hl, h1]
  constructor
  · rintro (h | ⟨h2, h3, h4⟩)
    · exact h.1
    · exact .inl ⟨h2, h3, fun f hf he => h4 (by rw [← he]; exact hb f hf)⟩
  · intro h
    by_cases hd : dig L e.1 = a
    · exact .inl ⟨h, hd⟩
    · rcases h with ⟨h2, h3, -⟩ | ⟨-, h3, -⟩ | ⟨-, x, y, -, h3, -⟩
      · exact .inr ⟨h2, h3, hd⟩
      · exact absurd (hb _ h3) hd
      · exact absurd (hb _ h3) hd
theorem jo_right {J : Jn} {la lb lj l' : List Ent} {L a : Nat} (ha : ∀ f ∈ la, dig L f.1 = a) (hlj : ∀ e, e ∈ lj ↔ jo J la (atA L a lb) e) (hl : ∀ e, e ∈ l' ↔ e ∈ lj ∨ (J.right = true ∧ e ∈ lb ∧ dig L e.1 ≠ a)) : (∀ e ∈ lj, dig L e.1 = a) ∧ ∀ e, e ∈ l' ↔ jo J la lb e := by
  have hla : la = atA L a la := (List.filter_eq_self.2 fun f hf => by simpa using ha f hf).symm
  have h1 : ∀ e, e ∈ lj ↔ jo J la lb e ∧ dig L e.1 = a := fun e => by rw [hlj]; conv => lhs; rw [hla]
                                                                      exact jo_at
  refine ⟨fun e he => ((h1 e).1 he).2, fun e => ?_⟩
  rw [hl, h1]
  constructor
  · rintro (h | ⟨h2, h3, h4⟩)
    · exact h.1
    · exact .inr (.inl ⟨h2, h3, fun f hf he => h4 (by rw [← he]; exact ha f hf)⟩)
  · intro h
    by_cases hd : dig L e.1 = a
    · exact .inl ⟨h, hd⟩
    · rcases h with ⟨-, h3, -⟩ | ⟨h2, h3, -⟩ | ⟨-, x, y, h3, -, -⟩
      · exact absurd (ha _ h3) hd
      · exact .inr ⟨h2, h3, hd⟩
      · exact absurd (ha _ h3) hd

/-- nobody's level is 0 -/
def lv0 : Option Nat → Nat → Nat
  | none, _ => 0
  | some _, n => n
theorem lv0_le (o : Option Nat) (n : Nat) : lv0 o n ≤ n := by cases o <;> simp [lv0]
theorem lv0_none {o : Option Nat} {n : Nat} (h : o = none) : lv0 o n = 0 := by subst h; rfl
theorem nodeO_lv0 {h : Array Obj} {k n : Nat} {o : Option Nat} {l : List Ent} (r : NodeO h k o n l) : NodeO h k o (lv0 o n) l := by
  cases o <;> exact r

/-- two entries of one point -/
structure LeafBoth (h : Array Obj) (k a b : Nat) (p : List Nat) (x y : Nat) : Prop where
  ra : NodeRep h k a 0 [(p, x)]
  rb : NodeRep h k b 0 [(p, y)]
theorem leaf_both {h : Array Obj} {k a b n x : Nat} {p : List Nat} {la lb : List Ent} (ra : NodeRep h k a n la) (rb : NodeRep h k b n lb) (hn : n = 0) (hla : la = [(p, x)]) (hc : ∀ e ∈ la, ∀ f ∈ lb, e.1 = f.1) : ∃ y, LeafBoth h k a b p x y ∧ lb = [(p, y)] := by
  subst hn hla
  obtain ⟨_, pre, v, _, _, _, _, _, _, _, hl, _⟩ := rb.head.ex
  have hlb := hl rfl
  have hp : p = pre := hc (p, x) (.head _) (pre, v) (by rw [hlb]; exact .head _)
  subst hp
  rw [hlb] at rb
  exact ⟨v, ⟨ra, rb⟩, hlb⟩
theorem jentry_leaf {k a b x : Nat} {p : List Nat} {pa : Option Addr} {pn pcap : Nat} {lb : List Ent} {w : World} (J : Jn) (h : ∃ y, LeafBoth w.heap k a b p x y ∧ lb = [(p, y)]) (hp : Sl w.heap (.slice pa pn pcap) p) :
    CallK Try.prog F_sets_joiner_entry [jnV J, ptr a, .agg #[.slice pa pn pcap, U x], ptr b] (fun r w' => Ext w w' ∧ ∃ o l', r = ptrO o ∧ NodeL w'.heap k o l' ∧ ∀ e, e ∈ l' ↔ jo J [(p, x)] lb e) w := by
  obtain ⟨y, ⟨ra, rb⟩, rfl⟩ := h
  refine (jentry_spec J ra rb hp).mono fun r w' ⟨h1, o, l', h2, h3, h4⟩ => ⟨h1, o, l', h2, h3, fun e => ?_⟩
  rw [h4, jo_leaf]

/-- does a node cover another one's prefix? -/
theorem covers_prefix {k a b na nb : Nat} {la lb : List Ent} {w : World} (ra : NodeRep w.heap k a na la) (rb : NodeRep w.heap k b nb lb) (hn : nb ≤ na) {u : Value} {pre : List Nat} (hu : Sl w.heap u pre) (hpk : pre.length = k) (hpre : ∀ e ∈ lb, shr nb e.1 = shr nb pre) :
    CallK Try.prog F_node_Node_Covers [ptr a, u] (fun r w' => w = w' ∧ ∃ t, r = .bool t ∧ (t = true ↔ ∀ e ∈ la, ∀ f ∈ lb, shr na e.1 = shr na f.1)) w := by
  refine (node_covers_spec ra hu).mono fun r w' ⟨h1, h2⟩ => ⟨h1, _, h2, ?_⟩
  rw [decide_eq_true_eq]
  obtain ⟨f0, hf0⟩ := List.exists_mem_of_ne_nil _ rb.ne
  constructor
  · rintro ⟨-, h⟩ e he f hf
    exact (h e he).trans (shr_up (hpre f hf) hn).symm
  · exact fun h => ⟨hpk, fun e he => (h e he f0 hf0).trans (shr_up (hpre f0 hf0) hn)⟩

/-- two nodes that part -/
theorem pair_apart {k a b na nb n : Nat} {la lb : List Ent} {w : World} (ra : NodeRep w.heap k a na la) (rb : NodeRep w.heap k b nb lb) (hna : na ≤ n) (hnb : nb ≤ n) (hc : ¬ ∀ e ∈ la, ∀ f ∈ lb, shr n e.1 = shr n f.1) :
    CallK Try.prog F_node_Pair [ptr a, ptr b] (fun r w' => Ext w w' ∧ ∃ b' l', r = .tuple #[ptr b', I 0] ∧ NodeL w'.heap k (some b') l' ∧ ∀ e, e ∈ l' ↔ e ∈ la ∨ e ∈ lb) w := by
  obtain ⟨e0, he0⟩ := List.exists_mem_of_ne_nil _ ra.ne
  obtain ⟨f0, hf0⟩ := List.exists_mem_of_ne_nil _ rb.ne
  have oe := ra.ok e0 he0
  have of := rb.ok f0 hf0
  have hlen : e0.1.length = f0.1.length := by rw [oe.1, of.1]
  have h0 : shr n e0.1 ≠ shr n f0.1 := fun h => hc fun e he f hf => (ra.share he he0 hna).trans (h.trans (rb.share hf0 hf hnb))
  have htn : ¬ top e0.1 f0.1 ≤ n := fun h => h0 ((top_le hlen).1 h)
  have h64 := top_le64 oe.2.1 of.2.1
  obtain ⟨L, hL⟩ : ∃ L, top e0.1 f0.1 = L + 1 := ⟨top e0.1 f0.1 - 1, by omega⟩
  have hs1 : shr (L + 1) e0.1 = shr (L + 1) f0.1 := (top_le hlen).1 (by omega)
  have hs2 : dig L e0.1 ≠ dig L f0.1 := fun h => by
    have := (top_le hlen).2 (shr_down hlen hs1 h)
    omega
  refine (pair_spec (L := L) (x := dig L e0.1) (y := dig L f0.1) ra rb (by omega) (by omega) (by omega) (fun e he => dig_up (ra.share he he0 hna) (by omega)) (fun f hf => dig_up (rb.share hf hf0 hnb) (by omega)) hs2
    (fun e he f hf => (ra.share he he0 (by omega)).trans (hs1.trans (rb.share hf0 hf (by omega))))).mono ?_
  rintro r w' ⟨h1, b', l', h2, h3, h4⟩
  exact ⟨h1, b', l', h2, ⟨_, h3⟩, h4⟩

theorem apart_ne {k a b na nb n : Nat} {la lb : List Ent} {h h' : Array Obj} (ra : NodeRep h k a na la) (rb : NodeRep h' k b nb lb) (hna : na ≤ n) (hnb : nb ≤ n) (hc : ¬ ∀ e ∈ la, ∀ f ∈ lb, shr n e.1 = shr n f.1) : ∀ e ∈ la, ∀ f ∈ lb, e.1 ≠ f.1 := fun e he f hf heq =>
  hc fun e' he' f' hf' => (ra.share he' he hna).trans ((by rw [heq]; exact rb.share hf hf' hnb))

set_option maxHeartbeats 4000000 in
set_option maxRecDepth 100000 in
theorem join_step {J : Jn} {k M : Nat} (IH : JoinOk J k M) : JoinOk J k (M + 1) := by
  obtain ⟨rule, left, right, both⟩ := J
  intro h0 oa ob na nb la lb w ha hb ha0 hb0 x0 hM
  refine e_sets_joiner_join rfl ?_
  refine al ?_
  intro n1 w1 hn1 hx1 hsz1 hb1
  have hb1' : w1.heap[n1]? = some (.cells #[I rule, .bool left, .bool right, .bool both] T_sets_joiner (0, 0)) := hb1
  have x1 : HExt h0 w1.heap := x0.trans hx1.1
  cases oa with
  | none =>
    have : la = [] := ha
    subst this
    refine ⟨by decide, ldB hb1' rfl ?_⟩
    refine cl (jside_o ob right w1) ?_
    rintro _ _ ⟨rfl, rfl⟩
    refine ⟨hx1, _, if right = true then lb else [], rfl, ?_, fun e => ?_⟩
    · cases right with
      | true => exact (hb.ext x1).lst
      | false => exact NodeL.nil _ _
    · rw [jo_nil_left]
      cases right <;> simp
  | some a =>
    have ra : NodeRep h0 k a na la := ha
    have ra1 := ra.ext x1
    cases ob with
    | none =>
      have : lb = [] := hb
      subst this
      refine ⟨by decide, ldB hb1' rfl ?_⟩
      refine cl (jside_o (some a) left w1) ?_
      rintro _ _ ⟨rfl, rfl⟩
      refine ⟨hx1, _, if left = true then la else [], rfl, ?_, fun e => ?_⟩
      · cases left with
        | true => exact (ha.ext x1).lst
        | false => exact NodeL.nil _ _
      · rw [jo_nil_right]
        cases left <;> simp
    | some b =>
      have rb : NodeRep h0 k b nb lb := hb
      have rb1 := rb.ext x1
      have hk16 := ra.k1
      refine cl (node_level_spec ra1) ?_
      rintro _ _ ⟨rfl, rfl⟩
      refine cl (node_level_spec rb1) ?_
      rintro _ _ ⟨rfl, rfl⟩
      rcases Nat.lt_trichotomy na nb with hlt | heq | hgt
      · -- b is the higher one
        refine tsF (show ¬ ((na : Nat) : Int) - 1 = ((nb : Nat) : Int) - 1 by omega) ?_
        refine cl (node_level_spec ra1) ?_
        rintro _ _ ⟨rfl, rfl⟩
        refine cl (node_level_spec rb1) ?_
        rintro _ _ ⟨rfl, rfl⟩
        refine tsF (show ¬ ((nb : Nat) : Int) - 1 < ((na : Nat) : Int) - 1 by omega) ?_
        refine cl (node_level_spec rb1) ?_
        rintro _ _ ⟨rfl, rfl⟩
        refine cl (node_level_spec ra1) ?_
        rintro _ _ ⟨rfl, rfl⟩
        refine tsT (show ((na : Nat) : Int) - 1 < ((nb : Nat) : Int) - 1 by omega) ?_
        refine cl (node_prefix_spec ra1) ?_
        rintro pv w2 ⟨hx2, pre, hfr, hpk, hpre, -⟩
        refine cl (covers_prefix (rb1.ext hx2.1) (ra1.ext hx2.1) (by omega) hfr.sl hpk hpre) ?_
        rintro _ _ ⟨rfl, t, rfl, ht⟩
        have hx12 : Ext w w2 := hx1.trans hx2
        cases t with
        | true =>
          have hcov := ht.1 rfl
          have hnb1 : nb = (nb - 1) + 1 := by omega
          refine cl (node_prefix_spec (ra1.ext hx2.1)) ?_
          rintro pv' w3 ⟨hx3, pre', hfr', hpk', hpre', -⟩
          have hx03 := hx12.trans hx3
          have x3 : HExt h0 w3.heap := x0.trans hx03.1
          have rb' : NodeRep h0 k b ((nb - 1) + 1) lb := by rw [← hnb1]; exact rb
          have hL := rb'.lvl
          refine cl (node_level_L rb' x3) ?_
          rintro _ _ ⟨rfl, rfl⟩
          refine cl (addr_spec hfr'.sl (by omega) hL) ?_
          rintro _ _ ⟨rfl, rfl⟩
          have hdig : ∀ e ∈ la, dig (nb - 1) e.1 = dig (nb - 1) pre' := fun e he => dig_up (hpre' e he) (by omega)
          have hbl3 := (hx2.trans hx3).blk hb1'
          refine ldC (cs := [I rule, .bool left, .bool right, .bool both]) (celsAt_blk (o := 0) hbl3 rfl) rfl ?_
          refine ⟨by decide, ldB hbl3 rfl ?_⟩
          refine ldC (cs := [I rule, .bool left, .bool right, .bool both]) (celsAt_blk (o := 0) hbl3 rfl) rfl ?_
          refine cl (kid_spec (w := drw w3) rb' x3 (dig (nb - 1) pre')) ?_
          rintro _ w4 ⟨hx4, o, n', rfl, hn', ho⟩
          have hx4' : Ext w3 w4 := hx4
          refine ⟨hx4, ?_⟩
          refine cl (IH (oa := some a) (na := na) (la := la) (ob := o) (nb := lv0 o n') ra (nodeO_lv0 ho) (fun h => by cases h) (lv0_none) (x3.trans hx4'.1) (by have := lv0_le o n'; omega)) ?_
          rintro _ w5 ⟨hx5, oj, lj, rfl, rj, hlj⟩
          refine ⟨hx4'.trans hx5, ?_⟩
          have hx45 : Ext w3 w5 := hx4'.trans hx5
          have hjr := fun l' hl => jo_right (J := ⟨rule, left, right, both⟩) (lb := lb) (l' := l') hdig hlj hl
          have hjd : ∀ e ∈ lj, dig (nb - 1) e.1 = dig (nb - 1) pre' := (hjr (lj ++ if right = true then lb.filter (fun e => decide (dig (nb - 1) e.1 ≠ dig (nb - 1) pre')) else []) (fun e => by cases right <;> simp)).1
          refine cl (inner_spec ⟨rule, left, right, both⟩ right (rb'.ext (x3.trans hx45.1)) rj hjd (fun e he f hf => ?_)) ?_
          · obtain ⟨g, hg, hge⟩ := jo_dig ((hlj e).1 he)
            rw [← hge, ← hnb1]
            exact hg.elim (fun h => (hcov f hf g h).symm) (fun h => rb.share (mem_atA.1 h).1 hf (Nat.le_refl _))
          rintro _ w6 ⟨hx6, o6, l6, rfl, r6, hl6⟩
          refine ⟨hx45.trans hx6, ?_⟩
          exact ⟨(hx03.trans hx45).trans hx6, o6, l6, rfl, r6, (hjr l6 hl6).2⟩
        | false =>
          have hcov : ¬ ∀ e ∈ la, ∀ f ∈ lb, shr nb e.1 = shr nb f.1 := fun h => by have := ht.2 (fun e he f hf => (h f hf e he).symm); cases this
          have hna : na ≤ nb := by omega
          have hnb : nb ≤ nb := Nat.le_refl _
          have hbl2 := hx2.blk hb1'
          have hap := apart_ne ra rb hna hnb hcov
          refine ⟨by decide, ldB hbl2 rfl ?_⟩
          refine ⟨by decide, ldB hbl2 rfl ?_⟩
          refine cl (jside_o (some a) left (drw w2)) ?_
          rintro _ _ ⟨rfl, rfl⟩
          refine ⟨Ext.refl _, ?_⟩
          refine cl (jside_o (some b) right (drw w2)) ?_
          rintro _ _ ⟨rfl, rfl⟩
          refine ⟨Ext.refl _, ?_⟩
          have x2 : HExt h0 w2.heap := x0.trans hx12.1
          cases left with
          | false =>
            refine cl (node_level_spec (w := drw w2) (ra.ext x2)) ?_
            rintro _ _ ⟨rfl, rfl⟩
            refine cl (node_level_spec (w := drw w2) (rb.ext x2)) ?_
            rintro _ _ ⟨rfl, rfl⟩
            refine nm rfl ?_
            refine nm rfl ?_
            refine cl (add_one_spec (w := drw w2) (o := none) (ok_ := if right = true then some b else none) (lk := if right = true then lb else []) (NodeL.nil _ k) (by cases right with
              | true => exact (hb.ext x2).lst
              | false => exact NodeL.nil _ _) _ (.inl rfl)) ?_
            rintro _ _ ⟨rfl, o', l', rfl, r', hl'⟩
            refine ⟨hx12, o', l', rfl, r', fun e => ?_⟩
            rw [jo_apart hap, hl']
            cases right <;> simp
          | true =>
            cases right with
            | false =>
              refine cl (node_level_spec (w := drw w2) (ra.ext x2)) ?_
              rintro _ _ ⟨rfl, rfl⟩
              refine cl (node_level_spec (w := drw w2) (rb.ext x2)) ?_
              rintro _ _ ⟨rfl, rfl⟩
              refine nm rfl ?_
              refine nm rfl ?_
              refine cl (add_one_spec (w := drw w2) (o := some a) (ok_ := none) (lk := []) ((ha.ext x2).lst) (NodeL.nil _ _) _ (.inr rfl)) ?_
              rintro _ _ ⟨rfl, o', l', rfl, r', hl'⟩
              refine ⟨hx12, o', l', rfl, r', fun e => ?_⟩
              rw [jo_apart hap, hl']
              simp
            | true =>
              refine cl (pair_apart (w := drw w2) (ra.ext x2) (rb.ext x2) hna hnb hcov) ?_
              rintro _ w3 ⟨hx3, b', l', rfl, r', hl'⟩
              have hx3' : Ext w2 w3 := hx3
              refine ⟨hx12.trans hx3', some b', l', rfl, r', fun e => ?_⟩
              rw [jo_apart hap, hl']
              simp
      · -- both alike
        subst heq
        refine tsT rfl ?_
        refine cl (node_prefix_spec rb1) ?_
        rintro pv w2 ⟨hx2, pre, hfr, hpk, hpre, -⟩
        refine cl (covers_prefix (ra1.ext hx2.1) (rb1.ext hx2.1) (Nat.le_refl _) hfr.sl hpk hpre) ?_
        rintro _ _ ⟨rfl, t, rfl, ht⟩
        have hx12 : Ext w w2 := hx1.trans hx2
        cases t with
        | true =>
          have hcov := ht.1 rfl
          have x2 : HExt h0 w2.heap := x0.trans hx12.1
          refine cl (node_entry_spec (ra.ext x2)) ?_
          rintro re w3 ⟨hx3, hent⟩
          rcases hent with ⟨hn, rfl⟩ | ⟨hn0, p, x, pv2, hla, rfl, hfr2⟩
          · have hna1 : na = (na - 1) + 1 := by omega
            refine al ?_
            intro nc w4 hnc hx4 hsz4 hblk4
            refine st hblk4 rfl rfl rfl ?_
            intro w5 u5
            have hx25 : Ext w2 w5 := (hx3.trans hx4).upd (by have := hx3.1.1; omega) u5
            refine ldC (cs := [I rule, .bool left, .bool right, .bool both]) (celsAt_blk (o := 0) ((hx2.trans hx25).blk hb1') rfl) rfl ?_
            refine cl (jkids_spec IH (L := na - 1) (h0 := h0) (by rw [← hna1]; exact ra) (by rw [← hna1]; exact rb) (x2.trans hx25.1) (by rw [← hna1]; exact hcov) (by omega)) ?_
            rintro _ w6 ⟨hx6, o6, l6, rfl, r6, hl6⟩
            exact ⟨(hx12.trans hx25).trans hx6, o6, l6, rfl, r6, hl6⟩
          · obtain ⟨cb, cap, rest, rfl, hcb, hcblk⟩ := hfr2.own
            refine al ?_
            intro nc w4 hnc hx4 hsz4 hblk4
            refine st hblk4 rfl rfl rfl ?_
            intro w5 u5
            have hx25 : Ext w2 w5 := (hx3.trans hx4).upd (by have := hx3.1.1; omega) u5
            have h5 : w5.heap[nc]? = some (.cells #[.slice (some ⟨cb, 0, none⟩) p.length cap, U x] T_api_Entry (0, 0)) := u5.new
            have hcl := lt_of_blk hcblk
            have hc5 := u5.old (show cb ≠ nc by omega) (hx4.blk hcblk)
            refine ldC (cs := [I rule, .bool left, .bool right, .bool both]) (celsAt_blk (o := 0) ((hx2.trans hx25).blk hb1') rfl) rfl ?_
            refine ldC (cs := [.slice (some ⟨cb, 0, none⟩) p.length cap, U x]) (celsAt_blk (o := 0) h5 rfl) rfl ?_
            have x5 : HExt h0 w5.heap := x2.trans hx25.1
            have hleaf := leaf_both (ra.ext x5) (rb.ext x5) hn0 hla (fun e he f hf => by have := hcov e he f hf; rw [hn0, shr_zero, shr_zero] at this; exact this)
            refine cl (jentry_leaf ⟨rule, left, right, both⟩ hleaf (Sl.ofBlk hc5 hfr2.sl.small)) ?_
            rintro _ w6 ⟨hx6, o6, l6, rfl, r6, hl6⟩
            exact ⟨(hx12.trans hx25).trans hx6, o6, l6, rfl, r6, by rw [hla]; exact hl6⟩
        | false =>
          have hcov : ¬ ∀ e ∈ la, ∀ f ∈ lb, shr na e.1 = shr na f.1 := fun h => by have := ht.2 h; cases this
          have hna : na ≤ na := Nat.le_refl _
          have hnb : na ≤ na := Nat.le_refl _
          refine cl (node_level_spec (ra1.ext hx2.1)) ?_
          rintro _ _ ⟨rfl, rfl⟩
          refine cl (node_level_spec (rb1.ext hx2.1)) ?_
          rintro _ _ ⟨rfl, rfl⟩
          refine tsF (show ¬ ((na : Nat) : Int) - 1 < ((na : Nat) : Int) - 1 by omega) ?_
          refine cl (node_level_spec (rb1.ext hx2.1)) ?_
          rintro _ _ ⟨rfl, rfl⟩
          refine cl (node_level_spec (ra1.ext hx2.1)) ?_
          rintro _ _ ⟨rfl, rfl⟩
          refine tsF (show ¬ ((na : Nat) : Int) - 1 < ((na : Nat) : Int) - 1 by omega) ?_
          have hbl2 := hx2.blk hb1'
          have hap := apart_ne ra rb hna hnb hcov
          refine ⟨by decide, ldB hbl2 rfl ?_⟩
          refine ⟨by decide, ldB hbl2 rfl ?_⟩
          refine cl (jside_o (some a) left (drw w2)) ?_
          rintro _ _ ⟨rfl, rfl⟩
          refine ⟨Ext.refl _, ?_⟩
          refine cl (jside_o (some b) right (drw w2)) ?_
          rintro _ _ ⟨rfl, rfl⟩
          refine ⟨Ext.refl _, ?_⟩
          have x2 : HExt h0 w2.heap := x0.trans hx12.1
          cases left with
          | false =>
            refine cl (node_level_spec (w := drw w2) (ra.ext x2)) ?_
            rintro _ _ ⟨rfl, rfl⟩
            refine cl (node_level_spec (w := drw w2) (rb.ext x2)) ?_
            rintro _ _ ⟨rfl, rfl⟩
            refine nm rfl ?_
            refine nm rfl ?_
            refine cl (add_one_spec (w := drw w2) (o := none) (ok_ := if right = true then some b else none) (lk := if right = true then lb else []) (NodeL.nil _ k) (by cases right with
              | true => exact (hb.ext x2).lst
              | false => exact NodeL.nil _ _) _ (.inl rfl)) ?_
            rintro _ _ ⟨rfl, o', l', rfl, r', hl'⟩
            refine ⟨hx12, o', l', rfl, r', fun e => ?_⟩
            rw [jo_apart hap, hl']
            cases right <;> simp
          | true =>
            cases right with
            | false =>
              refine cl (node_level_spec (w := drw w2) (ra.ext x2)) ?_
              rintro _ _ ⟨rfl, rfl⟩
              refine cl (node_level_spec (w := drw w2) (rb.ext x2)) ?_
              rintro _ _ ⟨rfl, rfl⟩
              refine nm rfl ?_
              refine nm rfl ?_
              refine cl (add_one_spec (w := drw w2) (o := some a) (ok_ := none) (lk := []) ((ha.ext x2).lst) (NodeL.nil _ _) _ (.inr rfl)) ?_
              rintro _ _ ⟨rfl, o', l', rfl, r', hl'⟩
              refine ⟨hx12, o', l', rfl, r', fun e => ?_⟩
              rw [jo_apart hap, hl']
              simp
            | true =>
              refine cl (pair_apart (w := drw w2) (ra.ext x2) (rb.ext x2) hna hnb hcov) ?_
              rintro _ w3 ⟨hx3, b', l', rfl, r', hl'⟩
              have hx3' : Ext w2 w3 := hx3
              refine ⟨hx12.trans hx3', some b', l', rfl, r', fun e => ?_⟩
              rw [jo_apart hap, hl']
              simp
      · -- a is the higher one
        refine tsF (show ¬ ((na : Nat) : Int) - 1 = ((nb : Nat) : Int) - 1 by omega) ?_
        refine cl (node_level_spec ra1) ?_
        rintro _ _ ⟨rfl, rfl⟩
        refine cl (node_level_spec rb1) ?_
        rintro _ _ ⟨rfl, rfl⟩
        refine tsT (show ((nb : Nat) : Int) - 1 < ((na : Nat) : Int) - 1 by omega) ?_
        refine cl (node_prefix_spec rb1) ?_
        rintro pv w2 ⟨hx2, pre, hfr, hpk, hpre, -⟩
        refine cl (covers_prefix (ra1.ext hx2.1) (rb1.ext hx2.1) (by omega) hfr.sl hpk hpre) ?_
        rintro _ _ ⟨rfl, t, rfl, ht⟩
        have hx12 : Ext w w2 := hx1.trans hx2
        cases t with
        | true =>
          have hcov := ht.1 rfl
          have hna1 : na = (na - 1) + 1 := by omega
          refine cl (node_prefix_spec (rb1.ext hx2.1)) ?_
          rintro pv' w3 ⟨hx3, pre', hfr', hpk', hpre', -⟩
          have hx03 := hx12.trans hx3
          have x3 : HExt h0 w3.heap := x0.trans hx03.1
          have ra' : NodeRep h0 k a ((na - 1) + 1) la := by rw [← hna1]; exact ra
          have hL := ra'.lvl
          refine cl (node_level_L ra' x3) ?_
          rintro _ _ ⟨rfl, rfl⟩
          refine cl (addr_spec hfr'.sl (by omega) hL) ?_
          rintro _ _ ⟨rfl, rfl⟩
          have hdig : ∀ e ∈ lb, dig (na - 1) e.1 = dig (na - 1) pre' := fun e he => dig_up (hpre' e he) (by omega)
          have hbl3 := (hx2.trans hx3).blk hb1'
          refine ldC (cs := [I rule, .bool left, .bool right, .bool both]) (celsAt_blk (o := 0) hbl3 rfl) rfl ?_
          refine ⟨by decide, ldB hbl3 rfl ?_⟩
          refine ldC (cs := [I rule, .bool left, .bool right, .bool both]) (celsAt_blk (o := 0) hbl3 rfl) rfl ?_
          refine cl (kid_spec (w := drw w3) ra' x3 (dig (na - 1) pre')) ?_
          rintro _ w4 ⟨hx4, o, n', rfl, hn', ho⟩
          have hx4' : Ext w3 w4 := hx4
          refine ⟨hx4, ?_⟩
          refine cl (IH (oa := o) (na := lv0 o n') (ob := some b) (nb := nb) (lb := lb) (nodeO_lv0 ho) rb lv0_none (fun h => by cases h) (x3.trans hx4'.1) (by have := lv0_le o n'; omega)) ?_
          rintro _ w5 ⟨hx5, oj, lj, rfl, rj, hlj⟩
          refine ⟨hx4'.trans hx5, ?_⟩
          have hx45 : Ext w3 w5 := hx4'.trans hx5
          have hjr := fun l' hl => jo_left (J := ⟨rule, left, right, both⟩) (la := la) (l' := l') hdig hlj hl
          have hjd : ∀ e ∈ lj, dig (na - 1) e.1 = dig (na - 1) pre' := (hjr (lj ++ if left = true then la.filter (fun e => decide (dig (na - 1) e.1 ≠ dig (na - 1) pre')) else []) (fun e => by cases left <;> simp)).1
          refine cl (inner_spec ⟨rule, left, right, both⟩ left (ra'.ext (x3.trans hx45.1)) rj hjd (fun e he f hf => ?_)) ?_
          · obtain ⟨g, hg, hge⟩ := jo_dig ((hlj e).1 he)
            rw [← hge, ← hna1]
            exact hg.elim (fun h => ra.share (mem_atA.1 h).1 hf (Nat.le_refl _)) (fun h => (hcov f hf g h).symm)
          rintro _ w6 ⟨hx6, o6, l6, rfl, r6, hl6⟩
          refine ⟨hx45.trans hx6, ?_⟩
          exact ⟨(hx03.trans hx45).trans hx6, o6, l6, rfl, r6, (hjr l6 hl6).2⟩
        | false =>
          have hcov : ¬ ∀ e ∈ la, ∀ f ∈ lb, shr na e.1 = shr na f.1 := fun h => by have := ht.2 h; cases this
          have hna : na ≤ na := Nat.le_refl _
          have hnb : nb ≤ na := by omega
          refine cl (node_level_spec (rb1.ext hx2.1)) ?_
          rintro _ _ ⟨rfl, rfl⟩
          refine cl (node_level_spec (ra1.ext hx2.1)) ?_
          rintro _ _ ⟨rfl, rfl⟩
          refine tsF (show ¬ ((na : Nat) : Int) - 1 < ((nb : Nat) : Int) - 1 by omega) ?_
          have hbl2 := hx2.blk hb1'
          have hap := apart_ne ra rb hna hnb hcov
          refine ⟨by decide, ldB hbl2 rfl ?_⟩
          refine ⟨by decide, ldB hbl2 rfl ?_⟩
          refine cl (jside_o (some a) left (drw w2)) ?_
          rintro _ _ ⟨rfl, rfl⟩
          refine ⟨Ext.refl _, ?_⟩
          refine cl (jside_o (some b) right (drw w2)) ?_
          rintro _ _ ⟨rfl, rfl⟩
          refine ⟨Ext.refl _, ?_⟩
          have x2 : HExt h0 w2.heap := x0.trans hx12.1
          cases left with
          | false =>
            refine cl (node_level_spec (w := drw w2) (ra.ext x2)) ?_
            rintro _ _ ⟨rfl, rfl⟩
            refine cl (node_level_spec (w := drw w2) (rb.ext x2)) ?_
            rintro _ _ ⟨rfl, rfl⟩
            refine nm rfl ?_
            refine nm rfl ?_
            refine cl (add_one_spec (w := drw w2) (o := none) (ok_ := if right = true then some b else none) (lk := if right = true then lb else []) (NodeL.nil _ k) (by cases right with
              | true => exact (hb.ext x2).lst
              | false => exact NodeL.nil _ _) _ (.inl rfl)) ?_
            rintro _ _ ⟨rfl, o', l', rfl, r', hl'⟩
            refine ⟨hx12, o', l', rfl, r', fun e => ?_⟩
            rw [jo_apart hap, hl']
            cases right <;> simp
          | true =>
            cases right with
            | false =>
              refine cl (node_level_spec (w := drw w2) (ra.ext x2)) ?_
              rintro _ _ ⟨rfl, rfl⟩
              refine cl (node_level_spec (w := drw w2) (rb.ext x2)) ?_
              rintro _ _ ⟨rfl, rfl⟩
              refine nm rfl ?_
              refine nm rfl ?_
              refine cl (add_one_spec (w := drw w2) (o := some a) (ok_ := none) (lk := []) ((ha.ext x2).lst) (NodeL.nil _ _) _ (.inr rfl)) ?_
              rintro _ _ ⟨rfl, o', l', rfl, r', hl'⟩
              refine ⟨hx12, o', l', rfl, r', fun e => ?_⟩
              rw [jo_apart hap, hl']
              simp
            | true =>
              refine cl (pair_apart (w := drw w2) (ra.ext x2) (rb.ext x2) hna hnb hcov) ?_
              rintro _ w3 ⟨hx3, b', l', rfl, r', hl'⟩
              have hx3' : Ext w2 w3 := hx3
              refine ⟨hx12.trans hx3', some b', l', rfl, r', fun e => ?_⟩
              rw [jo_apart hap, hl']
              simp

end Go.Proofs.Ytlpndcfkjkbeoaa

namespace Go.Proofs.Ytlpndcfkjkbeoaa
open Go Go.Pan

/-! ### the document's Points (layer 12), Join (layer 15) -/

theorem EntL.placeP {hp h : Array Obj} {a : Option Addr} {cap : Nat} {l : List Ent} {R : List (Value × Nat)} (hr : Rw h (.slice a l.length cap) l.length (R.flatMap entV)) (he : Ents hp R l) {j : Nat} (hj : j < l.length) :
    ∃ b o pv, a = some ⟨b, o, none⟩ ∧ cel h ⟨b, o + j * 2 + 0, none⟩ = some pv ∧ cel h ⟨b, o + j * 2 + 1, none⟩ = some (U l[j].2) ∧ Sl hp pv l[j].1 := by
  obtain ⟨b, o, rfl, hcs⟩ := hr.place (by omega)
  have hjR : j < R.length := by have := he.len; omega
  have hok := he.ok j hjR hj
  refine ⟨b, o, R[j].1, rfl, ?_, ?_, hok.1⟩
  · rw [Nat.add_assoc]
    refine hcs.get ?_
    rw [flat_get entV_len R j 0 hjR (by decide)]; rfl
  · rw [Nat.add_assoc]
    refine hcs.get ?_
    rw [flat_get entV_len R j 1 hjR (by decide), ← hok.2]; rfl

/-- all points of two lists -/
def PtsL (la lb l : List Ent) : Prop := ∀ e, e ∈ l ↔ (e ∈ la ∧ ∀ f ∈ lb, f.1 ≠ e.1) ∨ (e.2 = 0 ∧ ∃ f ∈ lb, f.1 = e.1)

theorem points_spec {k : Nat} {v u : Value} {la lb : List Ent} {w : World} {hp0 : Array Obj} (xp : HExt hp0 w.heap) (ea : EntP hp0 w.heap v la) (eb : EntP hp0 w.heap u lb) (hs : Srt la) (hk : k ≤ 16) (ha : ∀ e ∈ la, e.1.length = k ∧ small 64 e.1) (hb : ∀ e ∈ lb, e.1.length = k ∧ small 64 e.1) (hn : la.length + lb.length ≤ 50000) :
    CallK Try.prog F_ref12_Points [v, u] (fun r w' => Ext w w' ∧ ∃ l, EntP hp0 w'.heap r l ∧ Srt l ∧ PtsL la lb l ∧ l.length ≤ la.length + lb.length) w := by
  obtain ⟨ub, uo, ucap, R, rfl, hcap, hcs, he⟩ := eb
  have hrw : Rw w.heap (.slice (some ⟨ub, uo, none⟩) lb.length ucap) lb.length (R.flatMap entV) := .some _ _ _ _ _ hcs
  refine e_ref12_Points rfl ?_
  refine lp (fun s : Nat × Value => [(0, s.2), (1, .slice (some ⟨ub, uo, none⟩) lb.length ucap), (5, I s.1)])
    (fun s w' => Ext w w' ∧ s.1 ≤ lb.length ∧ ∃ l, EntP hp0 w'.heap s.2 l ∧ Srt l ∧ PtsL la (lb.take s.1) l ∧ l.length ≤ la.length + s.1) (fun s => lb.length - s.1) (0, v) ⟨rfl, rfl, rfl, trivial⟩
    ⟨Ext.refl _, Nat.zero_le _, la, ea, hs, fun e => by simp, Nat.le_refl _⟩ ?_
  rintro ⟨j, v1⟩ e0 w1 ⟨hx1, hj, l, el, hsl, hpl, hll⟩
  simp only at hj el hpl hll
  rcases Nat.lt_or_ge j lb.length with h | h
  · obtain ⟨b, o, pv, hbo, hc1, -, hsl1⟩ := EntL.placeP hrw he h
    cases hbo
    have hbj := hb _ (List.getElem_mem h)
    have hlk : ∀ e ∈ l, e.1.length = k ∧ small 64 e.1 := fun e he => by
      rcases (hpl e).1 he with ⟨h1, -⟩ | ⟨-, f, h1, h2⟩
      · exact ha e h1
      · rw [← h2]; exact hb f (List.mem_of_mem_take h1)
    refine tsT (show (j : Int) < (lb.length : Nat) by omega) ?_
    refine ix rfl h ?_
    refine ⟨by decide, ld (hx1.cel hc1) ?_⟩
    refine cl (ref_put_p (xp.trans hx1.1) el hsl1 hsl (fun e he => ⟨by rw [(hlk e he).1, hbj.1], (hlk e he).2⟩) (by omega) (by omega) 0) ?_
    rintro v2 w2 ⟨hx2, l2, el2, hs2, hp2, hl2⟩
    refine nm (inc64 (by omega)) ?_
    refine ⟨(j + 1, v2), ⟨⟨rfl, rfl, rfl, trivial⟩, hx1.trans hx2, h, l2, el2, hs2, fun e => ?_, by simp only; omega⟩, by simp only; omega⟩
    simp only
    rw [hp2 e, hpl e, take_snoc lb j h]
    simp only [List.mem_singleton, List.mem_append]
    constructor
    · rintro (rfl | ⟨⟨h1, h2⟩ | ⟨h1, f, h2, h3⟩, h4⟩)
      · exact .inr ⟨rfl, _, .inr rfl, rfl⟩
      · exact .inl ⟨h1, fun f hf => hf.elim (h2 f) fun h => by rw [h]; exact fun h => h4 h.symm⟩
      · exact .inr ⟨h1, f, .inl h2, h3⟩
    · rintro (⟨h1, h2⟩ | ⟨h1, f, h2, h3⟩)
      · exact .inr ⟨.inl ⟨h1, fun f hf => h2 f (.inl hf)⟩, fun h => h2 _ (.inr rfl) h.symm⟩
      · by_cases hq : e.1 = lb[j].1
        · exact .inl (Prod.ext hq h1)
        · rcases h2 with h2 | h2
          · exact .inr ⟨.inr ⟨h1, f, h2, h3⟩, hq⟩
          · rw [h2] at h3; exact absurd h3.symm hq
  · have : j = lb.length := by omega
    subst this
    refine tsF (show ¬ ((lb.length : Nat) : Int) < (lb.length : Nat) by omega) ?_
    rw [List.take_length] at hpl
    exact ⟨hx1, l, el, hsl, hpl, hll⟩

set_option maxHeartbeats 2000000 in
set_option maxRecDepth 100000 in
theorem ref_value_spec (rule : Int) {x y : Nat} (hx : x < 2 ^ 64) (hy : y < 2 ^ 64) (w : World) : CallK Try.prog F_ref15_Value [I rule, U x, U y] (fun r w' => w = w' ∧ r = U (jv rule x y)) w := by
  refine e_ref15_Value rfl ?_
  refine ts (fun g0 => ?_) (fun g0 => ?_)
  · refine ts (fun g1 => ⟨rfl, by rw [show jv rule x y = x by simp [jv, g1]]; rfl⟩) (fun g1 => ?_)
    refine ts (fun g2 => ⟨rfl, by rw [show jv rule x y = y by simp [jv, g2]]; rfl⟩) (fun g2 => ?_)
    refine ts (fun g3 => ⟨rfl, by rw [show jv rule x y = y by simp [jv, g3]; omega]; rfl⟩) (fun g3 => ?_)
    refine ts (fun g4 => ⟨rfl, by rw [show jv rule x y = x by simp [jv, g4]; omega]; rfl⟩) (fun g4 => ?_)
    refine ts (fun g5 => ?_) (fun g5 => ?_)
    · refine nm (add_u64 x y) ?_
      exact ⟨rfl, by rw [show jv rule x y = (x + y) % 2 ^ 64 by simp [jv, g5]]; rfl⟩
    refine nm (v := ((max x y - min x y : Nat) : Int)) (wru64 (by omega) (by omega) (by omega)) ?_
    exact ⟨rfl, by rw [show jv rule x y = max x y - min x y by simp [jv, g1, g2, g3, g4, g5]]; rfl⟩
  · refine ts (fun g1 => ⟨rfl, by rw [show jv rule x y = x by simp [jv, g1]]; rfl⟩) (fun g1 => ?_)
    refine ts (fun g2 => ⟨rfl, by rw [show jv rule x y = y by simp [jv, g2]]; rfl⟩) (fun g2 => ?_)
    refine ts (fun g3 => ⟨rfl, by rw [show jv rule x y = x by simp [jv, g3]; omega]; rfl⟩) (fun g3 => ?_)
    refine ts (fun g4 => ⟨rfl, by rw [show jv rule x y = y by simp [jv, g4]; omega]; rfl⟩) (fun g4 => ?_)
    refine ts (fun g5 => ?_) (fun g5 => ?_)
    · refine nm (add_u64 x y) ?_
      exact ⟨rfl, by rw [show jv rule x y = (x + y) % 2 ^ 64 by simp [jv, g5]]; rfl⟩
    refine nm (v := ((max x y - min x y : Nat) : Int)) (wru64 (by omega) (by omega) (by omega)) ?_
    exact ⟨rfl, by rw [show jv rule x y = max x y - min x y by simp [jv, g1, g2, g3, g4, g5]]; rfl⟩

end Go.Proofs.Ytlpndcfkjkbeoaa

namespace Go.Pan
open Go

/-- a row of the call's own; or a slice without room -/
def Own0 (w : World) (base e size : Nat) (v : Value) (n : Nat) (xs : List Value) : Prop := w.ownsRow base e size v n xs ∨ (∃ nb, v = .slice (some ⟨nb, 0, none⟩) 0 0) ∧ n = 0 ∧ xs = []
theorem own0_new (w : World) (base e size nb : Nat) : Own0 w base e size (.slice (some ⟨nb, 0, none⟩) 0 0) 0 [] := .inr ⟨⟨nb, rfl⟩, rfl, rfl⟩
theorem own0_keep {w w' : World} {base e size : Nat} {v : Value} {n : Nat} {xs : List Value} (h : Own0 w base e size v n xs) (x : Ext w w') : Own0 w' base e size v n xs := h.imp (fun h => own_keep h x) id
theorem own0_rw {w : World} {base e size : Nat} {v : Value} {n : Nat} {xs : List Value} (h : Own0 w base e size v n xs) : Rw w.heap v n xs := by
  rcases h with h | ⟨⟨nb, rfl⟩, rfl, rfl⟩
  · exact own_rw h
  · exact .nil _ _

theorem appZ {P : Program} {tt : Nat → Option TI} (htt : ∀ t i, tt t = some i → tiOf P t = some i) {o : Oper} {ρ : Operand → Value} {K : Value → World → Prop} {w : World} {s x : Operand} {t : TypeId}
    (ho : o.op = .call { callee := .builtin .append, args := #[s, x], argTypes := #[t, t] }) {a b : Nat} {c : Bool} {z : List Value} {e : TypeId} {esz : Nat} (ht : tt t = some ⟨a, b, c, z, .slice e esz⟩)
    {ie : TI} (he : tt e = some ie) (hsz : ie.size = esz) (hpos : 0 < esz) (hzl : ie.zero.length = esz)
    {base : Nat} {v : Value} {n : Nat} {xs : List Value} (hv : ρ s = v) (hown : Own0 w base e esz v n xs) {ad : Addr} {m cp : Nat} {news : List Value} (hx : ρ x = .slice (some ad) m cp) (hm : 0 < m)
    (hl : news.length = m * esz) (hc : celsAt w.heap ad news) (hf : news.all flat = true) (h1 : n + m ≤ 4294967296) (h2 : ie.bytes ≤ 1024) (hb : base ≤ w.heap.size)
    (hk : ∀ a' cap' w', w'.ownsRow base e esz (.slice a' (n + m) cap') (n + m) (xs ++ news) → (∀ {w0}, Ext w0 w → w0.heap.size ≤ base → Ext w0 w') → K (.slice a' (n + m) cap') w') : GenK P o ρ K w := by
  rcases hown with hown | ⟨⟨nb, rfl⟩, rfl, rfl⟩
  · refine appF htt ho ht he hsz hpos hzl hv hown hx hl hc hf h1 h2 hb fun a' cap' w' h3 h4 => hk a' cap' w' h3 fun hx0 hb0 => hx0.grown h4 fun k hk => Nat.le_trans hb0 (own_row hown k hk)
  · obtain ⟨i1, d1, z1, o1⟩ := tiOf_spec (htt _ _ ht)
    obtain ⟨i2, d2, z2, o2⟩ := tiOf_spec (htt _ _ he)
    obtain ⟨hd, _, _⟩ := kind_slice o1.kind
    subst hd
    have hmb : (0 + m) * ie.bytes ≤ 140737488355328 := Nat.le_trans (Nat.mul_le_mul h1 h2) (by decide)
    have hmb' : m * ie.bytes ≤ 140737488355328 := by rw [Nat.zero_add] at hmb; exact hmb
    have hcell : ∀ j u, news[j]? = some u → w.cell? (ad.add j) = some u := fun j u hj => hc j u hj
    have hbytes : i2.bytes = ie.bytes := o2.bytes
    have hl2 : news.length = m * i2.size := by rw [hl, o2.size, hsz]
    obtain ⟨v', w', hr, ho', hg, hn⟩ := run_append_own (P := P) w base t o.type e i2 z2 esz ie.bytes o1.und o2.info o2.zero (by rw [o2.size, hsz]) o2.bytes (by rw [← Array.length_toList, o2.zcells, hzl]) hpos (.slice none 0 0) 0 [] (World.ownsRow_nil w base e esz) ad m cp news hl
      hcell (oneCell_of_flat hf) (by unfold maxLen; omega) hmb hb
    have e1 := run_append_nil (P := P) w t o.type e i2 z2 o1.und o2.info o2.zero ad m cp news hl2 hcell hm (by omega) (by rw [hbytes]; omega)
    have e2 := run_append_grow (P := P) w t o.type e i2 z2 o1.und o2.info o2.zero ⟨nb, 0, none⟩ 0 0 [] (by simp) (by simp) ad m cp news hl2 hcell (by omega) (by omega) (by rw [hbytes, Nat.zero_add, nextslicecap_zero hm]; omega)
    have e3 : (Builtin.append_ #[t, t] o.type #[.slice (some ⟨nb, 0, none⟩) 0 0, .slice (some ad) m cp]).run P w = (Builtin.append_ #[t, t] o.type #[.slice none 0 0, .slice (some ad) m cp]).run P w := by
      rw [e1, e2]
      simp
    obtain ⟨a', cap', rfl⟩ := (own_rw ho').form
    refine ⟨?_⟩
    have : (execOp ρ o).run P w = .ok (.value (.slice a' (0 + m) cap')) w' := by
      simp only [execOp, ho, resolve, Sem.run_bind, Sem.run_pure, Result.andThen_ok, invoke, builtin]
      have e1 : (#[s, x] : Array Operand).map ρ = #[.slice (some ⟨nb, 0, none⟩) 0 0, .slice (some ad) m cp] := by simp [hv, hx]
      rw [e1, e3, hr]
      rfl
    rw [this]
    exact hk a' cap' w' ho' fun hx0 _ => hx0.grown hg (fun k hk => by cases hk)
end Go.Pan
namespace Go.Proofs.Ytlpndcfkjkbeoaa
open Go Go.Pan

/-! ### the document's Join (layer 15) -/

/-- what becomes of a point -/
def joinAt (J : Jn) (la lb : List Ent) (q : List Nat) : Option Nat :=
  match getL q la, getL q lb with
  | some x, some y => if J.both = true then some (jv J.rule x y) else none
  | some x, none => if J.left = true then some x else none
  | none, some y => if J.right = true then some y else none
  | none, none => none
def joinL (J : Jn) (la lb al : List Ent) : List Ent := al.filterMap fun e => (joinAt J la lb e.1).map fun v => (e.1, v)

theorem joinAt_jo {J : Jn} {la lb : List Ent} (ha : Srt la) (hb : Srt lb) {q : List Nat} {v : Nat} : joinAt J la lb q = some v ↔ jo J la lb (q, v) := by
  unfold joinAt jo
  cases hA : getL q la with
  | none =>
    have h1 := getL_none.1 hA
    cases hB : getL q lb with
    | none =>
      have h2 := getL_none.1 hB
      simp only
      constructor
      · intro h; cases h
      · rintro (⟨-, h, -⟩ | ⟨-, h, -⟩ | ⟨-, x, y, h, -⟩)
        · exact absurd rfl (h1 _ h)
        · exact absurd rfl (h2 _ h)
        · exact absurd rfl (h1 _ h)
    | some y =>
      have h2 := (getL_some hb).1 hB
      simp only
      constructor
      · intro h
        split at h
        · rename_i hr
          cases h
          exact .inr (.inl ⟨hr, h2, h1⟩)
        · cases h
      · rintro (⟨-, h, -⟩ | ⟨hr, h, -⟩ | ⟨-, x, y, h, -⟩)
        · exact absurd rfl (h1 _ h)
        · rw [if_pos hr, (getL_some hb).2 h] at *
          cases hB; rfl
        · exact absurd rfl (h1 _ h)
  | some x =>
    have h1 := (getL_some ha).1 hA
    cases hB : getL q lb with
    | none =>
      have h2 := getL_none.1 hB
      simp only
      constructor
      · intro h
        split at h
        · rename_i hr
          cases h
          exact .inl ⟨hr, h1, h2⟩
        · cases h
      · rintro (⟨hr, h, -⟩ | ⟨-, h, -⟩ | ⟨-, x, y, -, h, -⟩)
        · rw [(getL_some ha).2 h] at hA
          cases hA
          rw [if_pos hr]
        · exact absurd rfl (h2 _ h)
        · exact absurd rfl (h2 _ h)
    | some y =>
      have h2 := (getL_some hb).1 hB
      simp only
      constructor
      · intro h
        split at h
        · rename_i hr
          cases h
          exact .inr (.inr ⟨hr, x, y, h1, h2, rfl⟩)
        · cases h
      · rintro (⟨-, -, h⟩ | ⟨-, -, h⟩ | ⟨hr, x', y', h3, h4, h5⟩)
        · exact absurd rfl (h _ h2)
        · exact absurd rfl (h _ h1)
        · rw [(getL_some ha).2 h3] at hA
          rw [(getL_some hb).2 h4] at hB
          cases hA
          cases hB
          rw [if_pos hr]
          exact congrArg some h5.symm

theorem joinL_srt {J : Jn} {la lb al : List Ent} (h : Srt al) : Srt (joinL J la lb al) := by
  unfold joinL
  refine List.Pairwise.filterMap _ ?_ h
  intro a a' haa b hb b' hb'
  rw [Option.map_eq_some_iff] at hb hb'
  obtain ⟨v, -, rfl⟩ := hb
  obtain ⟨v', -, rfl⟩ := hb'
  exact haa

theorem joinL_mem {J : Jn} {la lb al : List Ent} (ha : Srt la) (hb : Srt lb) (hal : PtsL la lb al) : ∀ e, e ∈ joinL J la lb al ↔ jo J la lb e := fun e => by
  unfold joinL
  rw [List.mem_filterMap]
  constructor
  · rintro ⟨f, -, h⟩
    rw [Option.map_eq_some_iff] at h
    obtain ⟨v, h1, rfl⟩ := h
    exact (joinAt_jo ha hb).1 h1
  · intro h
    have h1 := (joinAt_jo ha hb (v := e.2)).2 h
    have hin : ∃ f ∈ al, f.1 = e.1 := by
      obtain ⟨f, hf, hfe⟩ := jo_dig h
      by_cases hb2 : ∃ g ∈ lb, g.1 = e.1
      · obtain ⟨g, hg, hge⟩ := hb2
        exact ⟨(e.1, 0), (hal _).2 (.inr ⟨rfl, g, hg, hge⟩), rfl⟩
      · rcases hf with hf | hf
        · exact ⟨f, (hal f).2 (.inl ⟨hf, fun g hg h => hb2 ⟨g, hg, by rw [h, hfe]⟩⟩), hfe⟩
        · exact absurd ⟨f, hf, hfe⟩ hb2
    obtain ⟨f, hf, hfe⟩ := hin
    exact ⟨f, hf, by rw [hfe, h1]; rfl⟩

theorem ref_get_eq {v u : Value} {l : List Ent} {q : List Nat} {w : World} (e : EntL w.heap v l) (t : Sl w.heap u q) (hs : Srt l) (hl : ∀ e ∈ l, e.1.length = q.length ∧ small 64 e.1) (hq : q.length ≤ 16) (hn : l.length ≤ 65536) {o : Option Nat} (ho : getL q l = o) :
    CallK Try.prog F_ref06_Get [v, u] (fun r w' => w = w' ∧ r = .tuple #[U (o.getD 0), .bool o.isSome]) w := by
  refine (ref_get_spec e t hs hl hq hn).mono fun r w' ⟨h1, h2⟩ => ⟨h1, ?_⟩
  rcases h2 with ⟨rfl, h⟩ | ⟨y, rfl, h⟩
  · rw [getL_none.2 h] at ho
    subst ho; rfl
  · rw [(getL_some hs).2 h] at ho
    subst ho; rfl

set_option maxHeartbeats 4000000 in
set_option maxRecDepth 100000 in
theorem ref_join_spec {k : Nat} {v u : Value} {la lb : List Ent} {w : World} (J : Jn) (ea : EntS w.heap v la) (eb : EntS w.heap u lb) (hsa : Srt la) (hsb : Srt lb) (hk : k ≤ 16) (ha : ∀ e ∈ la, e.1.length = k ∧ small 64 e.1 ∧ e.2 < 2 ^ 64) (hb : ∀ e ∈ lb, e.1.length = k ∧ small 64 e.1 ∧ e.2 < 2 ^ 64) (hn : la.length + lb.length ≤ 50000) :
    CallK Try.prog F_ref15_Join [v, u, I J.rule, .bool J.left, .bool J.right, .bool J.both] (fun r w' => Ext w w' ∧ ∃ a cap l, r = .slice a l.length cap ∧ EntL w'.heap (.slice a l.length cap) l ∧ Srt l ∧ (∀ e, e ∈ l ↔ jo J la lb e) ∧ l.length ≤ 50000) w := by
  obtain ⟨rule, left, right, both⟩ := J
  obtain ⟨va, vcap, rfl⟩ := ea.toL.form
  obtain ⟨ua, ucap, rfl⟩ := eb.toL.form
  refine e_ref15_Join rfl ?_
  refine ⟨rfl, rfl, by decide, al ?_⟩
  intro nb w1 hnb hx1 hsz1 hblk1
  have hx1' : Ext w w1 := hx1
  refine cl (points_spec (hp0 := w.heap) (k := k) hx1'.1 (ea.row hx1'.1) (eb.row hx1'.1) hsa hk (fun e he => ⟨(ha e he).1, (ha e he).2.1⟩) (fun e he => ⟨(hb e he).1, (hb e he).2.1⟩) hn) ?_
  rintro av w2 ⟨hx2, al, eal, hsal, hpal, hlal⟩
  have hx02 : Ext w w2 := hx1'.trans hx2
  obtain ⟨ab, ao, acap, R, rfl, hcap, hcs, he0⟩ := eal
  have he2 : Ents w2.heap R al := he0.ext hx02.1
  have hrw : Rw w2.heap (.slice (some ⟨ab, ao, none⟩) al.length acap) al.length (R.flatMap entV) := .some _ _ _ _ _ hcs
  have halk : ∀ e ∈ al, e.1.length = k := fun e he => by
    rcases (hpal e).1 he with ⟨h1, -⟩ | ⟨-, f, h1, h2⟩
    · exact (ha e h1).1
    · rw [← h2]; exact (hb f h1).1
  have hfin : ∀ {w' : World} {av : Value} {Ro : List (Value × Nat)}, Ext w w' → Own0 w' w2.heap.size T_ent 2 av (joinL ⟨rule, left, right, both⟩ la lb al).length (Ro.flatMap entV) → Ents w2.heap Ro (joinL ⟨rule, left, right, both⟩ la lb al) → Ext w2 w' →
      ∃ a cap l, av = .slice a l.length cap ∧ EntL w'.heap (.slice a l.length cap) l ∧ Srt l ∧ (∀ e, e ∈ l ↔ jo ⟨rule, left, right, both⟩ la lb e) ∧ l.length ≤ 50000 := by
    intro w' av Ro hx ho hE hx2
    have hrw' := own0_rw ho
    obtain ⟨a, cap, rfl⟩ := hrw'.form
    have hlen := hE.len
    refine ⟨a, cap, _, rfl, ⟨Ro, by rw [hlen]; exact hrw', hE.ext hx2.1⟩, joinL_srt hsal, joinL_mem hsa hsb hpal, ?_⟩
    have : (joinL ⟨rule, left, right, both⟩ la lb al).length ≤ al.length := List.length_filterMap_le ..
    omega
  refine lp (fun s : Nat × Value => [(0, .slice va la.length vcap), (1, .slice ua lb.length ucap), (2, I rule), (3, .bool left), (4, .bool right), (5, .bool both), (13, s.2), (14, .slice (some ⟨ab, ao, none⟩) al.length acap), (15, I s.1)])
    (fun s w' => Ext w2 w' ∧ s.1 ≤ al.length ∧ ∃ Ro, Own0 w' w2.heap.size T_ent 2 s.2 (joinL ⟨rule, left, right, both⟩ la lb (al.take s.1)).length (Ro.flatMap entV) ∧ Ents w2.heap Ro (joinL ⟨rule, left, right, both⟩ la lb (al.take s.1))) (fun s => al.length - s.1)
    (0, .slice (some ⟨nb, 0, none⟩) 0 0) ⟨rfl, rfl, rfl, rfl, rfl, rfl, rfl, rfl, rfl, trivial⟩ ⟨Ext.refl _, Nat.zero_le _, [], own0_new _ _ _ _ _, Ents.nil _⟩ ?_
  rintro ⟨j, ov⟩ e0 w3 ⟨hx3, hj, Ro, hown, hE⟩
  simp only at hj hown hE
  have hx03 : Ext w w3 := hx02.trans hx3
  rcases Nat.lt_or_ge j al.length with h | h
  · obtain ⟨b, o, pv, hbo, hc1, -, hsl⟩ := EntL.placeP hrw he2 h
    cases hbo
    have hkj := halk _ (List.getElem_mem h)
    have hlj : (joinL ⟨rule, left, right, both⟩ la lb (al.take j)).length ≤ j := Nat.le_trans (List.length_filterMap_le ..) (by rw [List.length_take]; omega)
    have hskip : joinAt ⟨rule, left, right, both⟩ la lb al[j].1 = none → joinL ⟨rule, left, right, both⟩ la lb (al.take (j + 1)) = joinL ⟨rule, left, right, both⟩ la lb (al.take j) := fun hn => by
      unfold joinL
      rw [take_snoc al j h, List.filterMap_append]
      simp [hn]
    have hsnoc : ∀ v, joinAt ⟨rule, left, right, both⟩ la lb al[j].1 = some v → joinL ⟨rule, left, right, both⟩ la lb (al.take (j + 1)) = joinL ⟨rule, left, right, both⟩ la lb (al.take j) ++ [(al[j].1, v)] := fun v hn => by
      unfold joinL
      rw [take_snoc al j h, List.filterMap_append]
      simp [hn]
    obtain ⟨pa, pcap, rfl⟩ := hsl.form
    have hga := fun o => ref_get_eq (o := o) (ea.toL.ext hx03.1) (hsl.ext hx3.1) hsa (fun e he => ⟨by rw [(ha e he).1, hkj], (ha e he).2.1⟩) (by omega) (by omega)
    have hgb := fun o => ref_get_eq (o := o) (eb.toL.ext hx03.1) (hsl.ext hx3.1) hsb (fun e he => ⟨by rw [(hb e he).1, hkj], (hb e he).2.1⟩) (by omega) (by omega)
    cases hA : getL al[j].1 la with
    | none =>
      cases hB : getL al[j].1 lb with
      | none =>
        have hn : joinAt ⟨rule, left, right, both⟩ la lb al[j].1 = none := by unfold joinAt; rw [hA, hB]
        refine tsT (show (j : Int) < (al.length : Nat) by omega) ?_
        refine ix rfl h ?_
        refine ⟨by decide, ld (hx3.cel hc1) ?_⟩
        refine cl (hga _ hA) ?_
        rintro _ _ ⟨rfl, rfl⟩
        refine ix rfl h ?_
        refine ⟨by decide, ld (hx3.cel hc1) ?_⟩
        refine cl (hgb _ hB) ?_
        rintro _ _ ⟨rfl, rfl⟩
        refine nm (inc64 (by omega)) ?_
        exact ⟨(j + 1, ov), ⟨⟨rfl, rfl, rfl, rfl, rfl, rfl, rfl, rfl, rfl, trivial⟩, hx3, h, Ro, by simp only; rw [hskip hn]; exact hown, by simp only; rw [hskip hn]; exact hE⟩, by simp only; omega⟩
      | some y =>
        cases right with
        | true =>
          have hn : joinAt ⟨rule, left, true, both⟩ la lb al[j].1 = some y := by unfold joinAt; rw [hA, hB]; rfl
          refine tsT (show (j : Int) < (al.length : Nat) by omega) ?_
          refine ix rfl h ?_
          refine ⟨by decide, ld (hx3.cel hc1) ?_⟩
          refine cl (hga _ hA) ?_
          rintro _ _ ⟨rfl, rfl⟩
          refine ix rfl h ?_
          refine ⟨by decide, ld (hx3.cel hc1) ?_⟩
          refine cl (hgb _ hB) ?_
          rintro _ _ ⟨rfl, rfl⟩
          refine ix rfl h ?_
          refine ⟨by decide, ld (hx3.cel hc1) ?_⟩
          refine ⟨rfl, rfl, by decide, Go.Pan.al ?_⟩
          intro nd w4 hnd hx4 hsz4 hblk4
          refine appZ tt_ok rfl rfl rfl rfl (by decide) rfl rfl (own0_keep hown hx4) rfl (by decide) (news := entV (.slice pa al[j].1.length pcap, y)) rfl (celsAt_blk (o := 0) hblk4 rfl) rfl (by omega) (by decide) (by have := (hx3.trans hx4).1.1; omega) ?_
          intro a' cap' w5 ho5 hg5
          refine nm (inc64 (by omega)) ?_
          refine ⟨(j + 1, .slice a' ((joinL ⟨rule, left, true, both⟩ la lb (al.take j)).length + 1) cap'), ⟨⟨rfl, rfl, rfl, rfl, rfl, rfl, rfl, rfl, rfl, trivial⟩, hg5 (hx3.trans hx4) (Nat.le_refl _), h, Ro ++ [(.slice pa al[j].1.length pcap, y)], ?_, ?_⟩, by simp only; omega⟩
          · simp only
            rw [hsnoc _ hn, List.length_append, List.flatMap_append, List.flatMap_singleton]
            exact .inl ho5
          · simp only
            rw [hsnoc _ hn]
            exact hE.append (Ents.one hsl y)
        | false =>
          have hn : joinAt ⟨rule, left, false, both⟩ la lb al[j].1 = none := by unfold joinAt; rw [hA, hB]; rfl
          refine tsT (show (j : Int) < (al.length : Nat) by omega) ?_
          refine ix rfl h ?_
          refine ⟨by decide, ld (hx3.cel hc1) ?_⟩
          refine cl (hga _ hA) ?_
          rintro _ _ ⟨rfl, rfl⟩
          refine ix rfl h ?_
          refine ⟨by decide, ld (hx3.cel hc1) ?_⟩
          refine cl (hgb _ hB) ?_
          rintro _ _ ⟨rfl, rfl⟩
          refine nm (inc64 (by omega)) ?_
          exact ⟨(j + 1, ov), ⟨⟨rfl, rfl, rfl, rfl, rfl, rfl, rfl, rfl, rfl, trivial⟩, hx3, h, Ro, by simp only; rw [hskip hn]; exact hown, by simp only; rw [hskip hn]; exact hE⟩, by simp only; omega⟩
    | some x =>
      have hx64 : x < 2 ^ 64 := (ha _ ((getL_some hsa).1 hA)).2.2
      cases hB : getL al[j].1 lb with
      | none =>
        cases left with
        | true =>
          have hn : joinAt ⟨rule, true, right, both⟩ la lb al[j].1 = some x := by unfold joinAt; rw [hA, hB]; rfl
          refine tsT (show (j : Int) < (al.length : Nat) by omega) ?_
          refine ix rfl h ?_
          refine ⟨by decide, ld (hx3.cel hc1) ?_⟩
          refine cl (hga _ hA) ?_
          rintro _ _ ⟨rfl, rfl⟩
          refine ix rfl h ?_
          refine ⟨by decide, ld (hx3.cel hc1) ?_⟩
          refine cl (hgb _ hB) ?_
          rintro _ _ ⟨rfl, rfl⟩
          refine ix rfl h ?_
          refine ⟨by decide, ld (hx3.cel hc1) ?_⟩
          refine ⟨rfl, rfl, by decide, Go.Pan.al ?_⟩
          intro nd w4 hnd hx4 hsz4 hblk4
          refine appZ tt_ok rfl rfl rfl rfl (by decide) rfl rfl (own0_keep hown hx4) rfl (by decide) (news := entV (.slice pa al[j].1.length pcap, x)) rfl (celsAt_blk (o := 0) hblk4 rfl) rfl (by omega) (by decide) (by have := (hx3.trans hx4).1.1; omega) ?_
          intro a' cap' w5 ho5 hg5
          refine nm (inc64 (by omega)) ?_
          refine ⟨(j + 1, .slice a' ((joinL ⟨rule, true, right, both⟩ la lb (al.take j)).length + 1) cap'), ⟨⟨rfl, rfl, rfl, rfl, rfl, rfl, rfl, rfl, rfl, trivial⟩, hg5 (hx3.trans hx4) (Nat.le_refl _), h, Ro ++ [(.slice pa al[j].1.length pcap, x)], ?_, ?_⟩, by simp only; omega⟩
          · simp only
            rw [hsnoc _ hn, List.length_append, List.flatMap_append, List.flatMap_singleton]
            exact .inl ho5
          · simp only
            rw [hsnoc _ hn]
            exact hE.append (Ents.one hsl x)
        | false =>
          have hn : joinAt ⟨rule, false, right, both⟩ la lb al[j].1 = none := by unfold joinAt; rw [hA, hB]; rfl
          refine tsT (show (j : Int) < (al.length : Nat) by omega) ?_
          refine ix rfl h ?_
          refine ⟨by decide, ld (hx3.cel hc1) ?_⟩
          refine cl (hga _ hA) ?_
          rintro _ _ ⟨rfl, rfl⟩
          refine ix rfl h ?_
          refine ⟨by decide, ld (hx3.cel hc1) ?_⟩
          refine cl (hgb _ hB) ?_
          rintro _ _ ⟨rfl, rfl⟩
          refine nm (inc64 (by omega)) ?_
          exact ⟨(j + 1, ov), ⟨⟨rfl, rfl, rfl, rfl, rfl, rfl, rfl, rfl, rfl, trivial⟩, hx3, h, Ro, by simp only; rw [hskip hn]; exact hown, by simp only; rw [hskip hn]; exact hE⟩, by simp only; omega⟩
      | some y =>
        have hy64 : y < 2 ^ 64 := (hb _ ((getL_some hsb).1 hB)).2.2
        cases both with
        | true =>
          have hn : joinAt ⟨rule, left, right, true⟩ la lb al[j].1 = some (jv rule x y) := by unfold joinAt; rw [hA, hB]; rfl
          refine tsT (show (j : Int) < (al.length : Nat) by omega) ?_
          refine ix rfl h ?_
          refine ⟨by decide, ld (hx3.cel hc1) ?_⟩
          refine cl (hga _ hA) ?_
          rintro _ _ ⟨rfl, rfl⟩
          refine ix rfl h ?_
          refine ⟨by decide, ld (hx3.cel hc1) ?_⟩
          refine cl (hgb _ hB) ?_
          rintro _ _ ⟨rfl, rfl⟩
          refine ix rfl h ?_
          refine ⟨by decide, ld (hx3.cel hc1) ?_⟩
          refine cl (ref_value_spec (w := drw w3) rule hx64 hy64) ?_
          rintro _ _ ⟨rfl, rfl⟩
          refine ⟨Ext.refl _, ?_⟩
          refine ⟨rfl, rfl, by decide, Go.Pan.al ?_⟩
          intro nd w4 hnd hx4 hsz4 hblk4
          have hx4' : Ext w3 w4 := hx4
          refine ⟨hx4, ?_⟩
          refine appZ tt_ok rfl rfl rfl rfl (by decide) rfl rfl (own0_keep hown hx4') rfl (by decide) (news := entV (.slice pa al[j].1.length pcap, jv rule x y)) rfl (celsAt_blk (o := 0) hblk4 rfl) rfl (by omega) (by decide) (by have := (hx3.trans hx4').1.1; omega) ?_
          intro a' cap' w5 ho5 hg5
          have hx35 : Ext w2 w5 := hg5 (hx3.trans hx4') (Nat.le_refl _)
          refine nm (inc64 (by omega)) ?_
          refine ⟨(j + 1, .slice a' ((joinL ⟨rule, left, right, true⟩ la lb (al.take j)).length + 1) cap'), ⟨⟨rfl, rfl, rfl, rfl, rfl, rfl, rfl, rfl, rfl, trivial⟩, hx35, h, Ro ++ [(.slice pa al[j].1.length pcap, jv rule x y)], ?_, ?_⟩, by simp only; omega⟩
          · simp only
            rw [hsnoc _ hn, List.length_append, List.flatMap_append, List.flatMap_singleton]
            exact .inl ho5
          · simp only
            rw [hsnoc _ hn]
            exact hE.append (Ents.one hsl (jv rule x y))
        | false =>
          have hn : joinAt ⟨rule, left, right, false⟩ la lb al[j].1 = none := by unfold joinAt; rw [hA, hB]; rfl
          refine tsT (show (j : Int) < (al.length : Nat) by omega) ?_
          refine ix rfl h ?_
          refine ⟨by decide, ld (hx3.cel hc1) ?_⟩
          refine cl (hga _ hA) ?_
          rintro _ _ ⟨rfl, rfl⟩
          refine ix rfl h ?_
          refine ⟨by decide, ld (hx3.cel hc1) ?_⟩
          refine cl (hgb _ hB) ?_
          rintro _ _ ⟨rfl, rfl⟩
          refine nm (inc64 (by omega)) ?_
          exact ⟨(j + 1, ov), ⟨⟨rfl, rfl, rfl, rfl, rfl, rfl, rfl, rfl, rfl, trivial⟩, hx3, h, Ro, by simp only; rw [hskip hn]; exact hown, by simp only; rw [hskip hn]; exact hE⟩, by simp only; omega⟩
  · have : j = al.length := by omega
    subst this
    refine tsF (show ¬ ((al.length : Nat) : Int) < (al.length : Nat) by omega) ?_
    rw [List.take_length] at hown hE
    exact ⟨hx03, hfin hx03 hown hE hx3⟩

end Go.Proofs.Ytlpndcfkjkbeoaa

namespace Go.Proofs.Ytlpndcfkjkbeoaa
open Go Go.Pan

/-! ### trees of a root; sets: Union, Common, Without, Touch -/

theorem tree_of_spec {k : Nat} (h1 : 1 ≤ k) (h16 : k ≤ 16) {o : Option Nat} {l : List Ent} {w : World} (r : NodeL w.heap k o l) :
    CallK Try.prog F_tree_Of [I k, ptrO o] (fun r w' => Ext w w' ∧ ∃ b, r = .tuple #[ptr b, I 0] ∧ TreeRep w'.heap b k l) w := by
  obtain ⟨n, hn⟩ := r
  refine e_tree_Of rfl ?_
  refine tsF (by omega) ?_
  refine tsF (by omega) ?_
  cases o with
  | none =>
    refine al ?_
    intro b w1 hb hx hsz hblk
    exact ⟨hx, b, rfl, ⟨⟨none, n, hblk, hn.ext hx.1⟩, h1, h16⟩⟩
  | some a =>
    refine cl (node_k_spec (show NodeRep w.heap k a n l from hn)) ?_
    rintro _ _ ⟨rfl, rfl⟩
    refine tsT rfl ?_
    refine al ?_
    intro b w1 hb hx hsz hblk
    exact ⟨hx, b, rfl, ⟨⟨some a, n, hblk, hn.ext hx.1⟩, h1, h16⟩⟩

theorem NodeO.zero {h : Array Obj} {k n : Nat} {o : Option Nat} {l : List Ent} (r : NodeO h k o n l) : ∃ n', NodeO h k o n' l ∧ (o = none → n' = 0) := by
  cases o with
  | none => exact ⟨0, r, fun _ => rfl⟩
  | some b => exact ⟨n, r, fun h => by cases h⟩

theorem join_ok (J : Jn) (k : Nat) : ∀ M, JoinOk J k M
  | 0 => fun _ _ _ _ _ h => absurd h (Nat.not_lt_zero _)
  | M + 1 => join_step (join_ok J k M)

theorem tree_k_h {k b : Nat} {l : List Ent} {w : World} {h0 : Array Obj} (tr : TreeRep h0 b k l) (x0 : HExt h0 w.heap) : CallK Try.prog F_tree_Tree_K [ptr b] (fun r w' => w = w' ∧ r = I k) w := tree_k_spec (tr.ext x0)

theorem trees_spec {k a b : Nat} {la lb : List Ent} {w : World} (J : Jn) (ta : TreeRep w.heap a k la) (tb : TreeRep w.heap b k lb) (hr : 1 ≤ J.rule ∧ J.rule ≤ 6) :
    CallK Try.prog F_sets_joiner_trees [jnV J, ptr a, ptr b] (fun r w' => Ext w w' ∧ ∃ c l, r = .tuple #[ptr c, I 0] ∧ TreeRep w'.heap c k l ∧ ∀ e, e ∈ l ↔ jo J la lb e) w := by
  obtain ⟨rule, left, right, both⟩ := J
  have h1 := ta.k1
  have h16 := ta.k16
  refine e_sets_joiner_trees rfl ?_
  refine al ?_
  intro n1 w1 hn1 hx1 hsz1 hb1
  have hb1' : w1.heap[n1]? = some (.cells #[I rule, .bool left, .bool right, .bool both] T_sets_joiner (0, 0)) := hb1
  refine ⟨by decide, ldB hb1' rfl ?_⟩
  refine cl (sets_check_spec (ta.ext hx1.1) (tb.ext hx1.1) rule) ?_
  rintro _ _ ⟨rfl, ⟨h, -⟩ | ⟨-, h, -⟩ | ⟨-, -, rfl⟩⟩
  · exact absurd rfl h
  · exact absurd hr h
  refine tsT rfl ?_
  refine ldC (cs := [I rule, .bool left, .bool right, .bool both]) (celsAt_blk (o := 0) hb1' rfl) rfl ?_
  refine cl (tree_k_h (w := drw w1) ta hx1.1) ?_
  rintro _ _ ⟨rfl, rfl⟩
  refine ⟨Ext.refl _, ?_⟩
  refine cl (tree_root_h (w := drw w1) ta hx1.1) ?_
  rintro _ _ ⟨rfl, oa, na, rfl, hoa⟩
  refine ⟨Ext.refl _, ?_⟩
  refine cl (tree_root_h (w := drw w1) tb hx1.1) ?_
  rintro _ _ ⟨rfl, ob, nb, rfl, hob⟩
  refine ⟨Ext.refl _, ?_⟩
  have hj : CallK Try.prog F_sets_joiner_join [jnV ⟨rule, left, right, both⟩, ptrO oa, ptrO ob] (fun r w' => Ext (drw w1) w' ∧ ∃ o l', r = ptrO o ∧ NodeL w'.heap k o l' ∧ ∀ e, e ∈ l' ↔ jo ⟨rule, left, right, both⟩ la lb e) (drw w1) := by
    obtain ⟨na', hoa', ha0⟩ := hoa.zero
    obtain ⟨nb', hob', hb0⟩ := hob.zero
    exact join_ok _ k (na' + nb' + 1) hoa' hob' ha0 hb0 hx1.1 (Nat.lt_succ_self _)
  refine cl hj ?_
  rintro _ w2 ⟨hx2, o, l, rfl, ro, hl⟩
  refine ⟨hx2, ?_⟩
  refine cl (tree_of_spec h1 h16 ro) ?_
  rintro _ w3 ⟨hx3, c, rfl, tc⟩
  refine ⟨hx2.trans hx3, ?_⟩
  have hx2' : Ext w1 w2 := hx2
  exact ⟨(hx1.trans hx2').trans hx3, c, l, rfl, tc, hl⟩

theorem trees_dim {ka kb a b : Nat} {la lb : List Ent} {w : World} (J : Jn) (ta : TreeRep w.heap a ka la) (tb : TreeRep w.heap b kb lb) (hk : ka ≠ kb) :
    CallK Try.prog F_sets_joiner_trees [jnV J, ptr a, ptr b] (fun r w' => Ext w w' ∧ r = .tuple #[nilp, I 2]) w := by
  obtain ⟨rule, left, right, both⟩ := J
  refine e_sets_joiner_trees rfl ?_
  refine al ?_
  intro n1 w1 hn1 hx1 hsz1 hb1
  have hb1' : w1.heap[n1]? = some (.cells #[I rule, .bool left, .bool right, .bool both] T_sets_joiner (0, 0)) := hb1
  refine ⟨by decide, ldB hb1' rfl ?_⟩
  refine cl (sets_check_spec (ta.ext hx1.1) (tb.ext hx1.1) rule) ?_
  rintro _ _ ⟨rfl, ⟨-, rfl⟩ | ⟨h, -⟩ | ⟨h, -⟩⟩
  · refine tsF (by decide) ?_
    exact ⟨hx1, rfl⟩
  · exact absurd h hk
  · exact absurd h hk
theorem trees_kind {k a b : Nat} {la lb : List Ent} {w : World} (J : Jn) (ta : TreeRep w.heap a k la) (tb : TreeRep w.heap b k lb) (hr : ¬ (1 ≤ J.rule ∧ J.rule ≤ 6)) :
    CallK Try.prog F_sets_joiner_trees [jnV J, ptr a, ptr b] (fun r w' => Ext w w' ∧ r = .tuple #[nilp, I 12]) w := by
  obtain ⟨rule, left, right, both⟩ := J
  refine e_sets_joiner_trees rfl ?_
  refine al ?_
  intro n1 w1 hn1 hx1 hsz1 hb1
  have hb1' : w1.heap[n1]? = some (.cells #[I rule, .bool left, .bool right, .bool both] T_sets_joiner (0, 0)) := hb1
  refine ⟨by decide, ldB hb1' rfl ?_⟩
  refine cl (sets_check_spec (ta.ext hx1.1) (tb.ext hx1.1) rule) ?_
  rintro _ _ ⟨rfl, ⟨h, -⟩ | ⟨-, -, rfl⟩ | ⟨-, h, -⟩⟩
  · exact absurd rfl h
  · refine tsF (by decide) ?_
    exact ⟨hx1, rfl⟩
  · exact absurd h hr

theorem union_spec {k a b : Nat} {la lb : List Ent} {w : World} {rule : Int} (ta : TreeRep w.heap a k la) (tb : TreeRep w.heap b k lb) (hr : 1 ≤ rule ∧ rule ≤ 6) :
    CallK Try.prog F_sets_Union [ptr a, ptr b, I rule] (fun r w' => Ext w w' ∧ ∃ c l, r = .tuple #[ptr c, I 0] ∧ TreeRep w'.heap c k l ∧ ∀ e, e ∈ l ↔ jo ⟨rule, true, true, true⟩ la lb e) w := by
  refine e_sets_Union rfl ?_
  refine cl (trees_spec ⟨rule, true, true, true⟩ ta tb hr) ?_
  rintro _ w1 ⟨hx, c, l, rfl, h⟩
  exact ⟨hx, c, l, rfl, h⟩
theorem common_spec {k a b : Nat} {la lb : List Ent} {w : World} {rule : Int} (ta : TreeRep w.heap a k la) (tb : TreeRep w.heap b k lb) (hr : 1 ≤ rule ∧ rule ≤ 6) :
    CallK Try.prog F_sets_Common [ptr a, ptr b, I rule] (fun r w' => Ext w w' ∧ ∃ c l, r = .tuple #[ptr c, I 0] ∧ TreeRep w'.heap c k l ∧ ∀ e, e ∈ l ↔ jo ⟨rule, false, false, true⟩ la lb e) w := by
  refine e_sets_Common rfl ?_
  refine cl (trees_spec ⟨rule, false, false, true⟩ ta tb hr) ?_
  rintro _ w1 ⟨hx, c, l, rfl, h⟩
  exact ⟨hx, c, l, rfl, h⟩
theorem common_dim {ka kb a b : Nat} {la lb : List Ent} {w : World} {rule : Int} (ta : TreeRep w.heap a ka la) (tb : TreeRep w.heap b kb lb) (hk : ka ≠ kb) :
    CallK Try.prog F_sets_Common [ptr a, ptr b, I rule] (fun r w' => Ext w w' ∧ r = .tuple #[nilp, I 2]) w := by
  refine e_sets_Common rfl ?_
  refine cl (trees_dim ⟨rule, false, false, true⟩ ta tb hk) ?_
  rintro _ w1 ⟨hx, rfl⟩
  exact ⟨hx, rfl⟩

theorem tree_root_nil (w : World) : CallK Try.prog F_tree_Tree_Root [nilp] (fun r w' => w = w' ∧ r = nilp) w := by
  refine e_tree_Tree_Root rfl ?_
  exact ⟨rfl, rfl⟩
theorem tree_len_nil (w : World) : CallK Try.prog F_tree_Tree_Len [nilp] (fun r w' => Ext w w' ∧ r = I 0) w := by
  refine e_tree_Tree_Len rfl ?_
  refine cl (tree_root_nil w) ?_
  rintro _ _ ⟨rfl, rfl⟩
  refine cl (nil_sums_spec _) ?_
  rintro _ w1 ⟨hx, rfl⟩
  refine nm (v := ((0 : Nat) : Int)) (wr64 rfl (by decide) (by decide)) ?_
  exact ⟨hx, rfl⟩

/-- a sorted list whose points are another one's is no longer -/
theorem srt_len_le : ∀ {l m : List Ent}, Srt l → (∀ e ∈ l, ∃ f ∈ m, f.1 = e.1) → l.length ≤ m.length
  | [], m, _, _ => Nat.zero_le _
  | e :: l, m, hs, h => by
    obtain ⟨h1, h2⟩ := List.pairwise_cons.1 hs
    obtain ⟨f, hf, hfe⟩ := h e (by simp)
    have ih := srt_len_le (l := l) (m := m.erase f) h2 fun g hg => by
      obtain ⟨x, hx, hxe⟩ := h g (by simp [hg])
      refine ⟨x, (List.mem_erase_of_ne fun hxf => ?_).2 hx, hxe⟩
      have := h1 g hg
      rw [← hxe, hxf, hfe] at this
      exact Nat.lt_irrefl _ this
    have hpos : 0 < m.length := List.length_pos_of_mem hf
    rw [List.length_erase_of_mem hf] at ih
    rw [List.length_cons]
    omega

theorem touch_spec {k a b : Nat} {la lb : List Ent} {w : World} (ta : TreeRep w.heap a k la) (tb : TreeRep w.heap b k lb) (hl : la.length ≤ 100000) :
    CallK Try.prog F_sets_Touch [ptr a, ptr b] (fun r w' => Ext w w' ∧ ∃ l, r = .tuple #[.bool (decide (0 < l.length)), I 0] ∧ Srt l ∧ ∀ e, e ∈ l ↔ jo ⟨1, false, false, true⟩ la lb e) w := by
  refine e_sets_Touch rfl ?_
  refine cl (common_spec (rule := 1) ta tb (by decide)) ?_
  rintro _ w1 ⟨hx, c, l, rfl, tc, hm⟩
  have hlen : l.length ≤ 100000 := by
    have : l.length ≤ la.length := srt_len_le tc.srt fun e he => by
      rcases (hm e).1 he with ⟨h, -⟩ | ⟨h, -⟩ | ⟨-, x, y, h, -⟩
      · cases h
      · cases h
      · exact ⟨_, h, rfl⟩
    omega
  refine cl (tree_len_spec tc (by omega)) ?_
  rintro _ w2 ⟨hx2, rfl⟩
  refine ts (fun g => ?_) (fun g => ?_)
  · exact ⟨hx.trans hx2, l, by rw [decide_eq_true (by omega)]; rfl, tc.srt, hm⟩
  · exact ⟨hx.trans hx2, l, by rw [decide_eq_false (by omega)]; rfl, tc.srt, hm⟩
theorem touch_dim {ka kb a b : Nat} {la lb : List Ent} {w : World} (ta : TreeRep w.heap a ka la) (tb : TreeRep w.heap b kb lb) (hk : ka ≠ kb) :
    CallK Try.prog F_sets_Touch [ptr a, ptr b] (fun r w' => Ext w w' ∧ r = .tuple #[.bool false, I 2]) w := by
  refine e_sets_Touch rfl ?_
  refine cl (common_dim (rule := 1) ta tb hk) ?_
  rintro _ w1 ⟨hx, rfl⟩
  refine cl (tree_len_nil w1) ?_
  rintro _ w2 ⟨hx2, rfl⟩
  refine tsF (by decide) ?_
  exact ⟨hx.trans hx2, rfl⟩

end Go.Proofs.Ytlpndcfkjkbeoaa

namespace Go.Proofs.Ytlpndcfkjkbeoaa
open Go Go.Pan

theorem awake15_spec (w : World) : CallK Try.prog F_law15_awake [] (fun r w' => Ext w w' ∧ r = .bool true) w := by
  refine e_law15_awake rfl ?_
  refine cl (tree_new_spec (k := 2) (by decide) (by decide) w) ?_
  rintro _ w1 ⟨hx1, b1, rfl, -, t1⟩
  refine ⟨rfl, rfl, by decide, al ?_⟩
  intro n2 w2 hn2 hx2 hsz2 hb2
  refine cl (put_as (t1.ext hx2.1) (sl_two hb2 (by decide) (by decide)) rfl (x := 3) (by decide)) ?_
  rintro _ w3 ⟨hx3, b3, rfl, t3⟩
  refine ⟨rfl, rfl, by decide, al ?_⟩
  intro n4 w4 hn4 hx4 hsz4 hb4
  have hx14 : Ext w1 w4 := (hx2.trans hx3).trans hx4
  refine cl (put_as (t1.ext hx14.1) (sl_two hb4 (by decide) (by decide)) rfl (x := 5) (by decide)) ?_
  rintro _ w5 ⟨hx5, b5, rfl, t5⟩
  have hx35 : Ext w3 w5 := hx4.trans hx5
  refine cl (union_spec (rule := 5) (t3.ext hx35.1) t5 (by decide)) ?_
  rintro _ w6 ⟨hx6, c6, l6, rfl, t6, hm6⟩
  refine cl (common_spec (rule := 6) (t3.ext (hx35.trans hx6).1) (t5.ext hx6.1) (by decide)) ?_
  rintro _ w7 ⟨hx7, c7, l7, rfl, t7, hm7⟩
  refine ⟨rfl, rfl, by decide, al ?_⟩
  intro n8 w8 hn8 hx8 hsz8 hb8
  have hg6 : getL [4, 0] l6 = some 8 := (getL_some t6.srt).2 ((hm6 _).2 (.inr (.inr ⟨rfl, 3, 5, by decide, by decide, by decide⟩)))
  have h8 := tree_get_spec (t6.ext (hx7.trans hx8).1) (sl_two hb8 (by decide) (by decide)) rfl
  rw [hg6] at h8
  refine cl h8 ?_
  rintro _ w9 ⟨hx9, rfl⟩
  refine ⟨rfl, rfl, by decide, al ?_⟩
  intro n10 w10 hn10 hx10 hsz10 hb10
  have hg7 : getL [4, 0] l7 = some 2 := (getL_some t7.srt).2 ((hm7 _).2 (.inr (.inr ⟨rfl, 3, 5, by decide, by decide, by decide⟩)))
  have h10 := tree_get_spec (t7.ext ((hx8.trans hx9).trans hx10).1) (sl_two hb10 (by decide) (by decide)) rfl
  rw [hg7] at h10
  refine cl h10 ?_
  rintro _ w11 ⟨hx11, rfl⟩
  refine tsT rfl ?_
  refine tsT rfl ?_
  refine tsT rfl ?_
  refine tsT rfl ?_
  exact ⟨((((((hx1.trans hx14).trans hx5).trans hx6).trans hx7).trans hx8).trans hx9).trans (hx10.trans hx11), rfl⟩

theorem sub_len {la lb l : List Ent} (ha : Srt la) (hb : Srt lb) (hs : Srt l) (hm : ∀ e, e ∈ l ↔ jo ⟨1, false, false, true⟩ la lb e) : subB la lb = decide (l.length = la.length) := by
  have hl : l = la.filter (fun e => (getL e.1 lb).isSome) := srt_ext hs (ha.filter _) fun e => by
    rw [hm, List.mem_filter]
    constructor
    · rintro (⟨h, -⟩ | ⟨h, -⟩ | ⟨-, x, y, h1, h2, h3⟩)
      · cases h
      · cases h
      · have : e.2 = x := h3
        rw [(getL_some hb).2 h2]
        exact ⟨by rw [show e = (e.1, x) from Prod.ext rfl this]; exact h1, rfl⟩
    · rintro ⟨h1, h2⟩
      obtain ⟨y, hy⟩ := Option.isSome_iff_exists.1 h2
      exact .inr (.inr ⟨rfl, e.2, y, h1, (getL_some hb).1 hy, rfl⟩)
  unfold subB
  rw [hl]
  by_cases h : la.all (fun e => (getL e.1 lb).isSome) = true
  · rw [h, decide_eq_true]
    rw [List.filter_eq_self.2 (List.all_eq_true.1 h)]
  · rw [Bool.eq_false_iff.2 h, decide_eq_false]
    intro h2
    exact h (List.all_eq_true.2 (List.length_filter_eq_length_iff.1 h2))

set_option maxHeartbeats 2000000 in
set_option maxRecDepth 100000 in
theorem setsAsk_law {k other : Int} {v u : Value} {la lb : List Act} {w : World} (s : ActL w.heap v la) (hla : la.length ≤ 9223372036854775807) (t : ActL w.heap u lb) (hlb : lb.length ≤ 9223372036854775807) :
    CallK Try.prog F_law15_SetsAsk [I k, I other, v, u] (fun r w' => Ext w w' ∧ r = .bool true) w := by
  obtain ⟨va, vcap, rfl⟩ := s.form
  obtain ⟨ua, ucap, rfl⟩ := t.form
  refine e_law15_SetsAsk rfl ?_
  refine cl (awake15_spec w) ?_
  rintro _ w1 ⟨hx1, rfl⟩
  refine cl (heavy_spec (s.ext hx1.1) hla 40) ?_
  rintro _ _ ⟨rfl, t1, rfl, ht1⟩
  cases t1 with
  | true => exact ⟨hx1, rfl⟩
  | false =>
  refine cl (heavy_spec (t.ext hx1.1) hlb 40) ?_
  rintro _ _ ⟨rfl, t2, rfl, ht2⟩
  cases t2 with
  | true => exact ⟨hx1, rfl⟩
  | false =>
  refine ts (fun g1 => ⟨hx1, rfl⟩) (fun g1 => ?_)
  refine ts (fun g2 => ⟨hx1, rfl⟩) (fun g2 => ?_)
  refine ts (fun g3 => ⟨hx1, rfl⟩) (fun g3 => ?_)
  refine ts (fun g4 => ⟨hx1, rfl⟩) (fun g4 => ?_)
  obtain ⟨k, rfl⟩ : ∃ i : Nat, k = i := ⟨k.toNat, by omega⟩
  obtain ⟨k2, rfl⟩ : ∃ i : Nat, other = i := ⟨other.toNat, by omega⟩
  have hal := (ht1 rfl).1
  have hbl := (ht2 rfl).1
  refine cl (grown_row (by omega) (by omega) (s.ext hx1.1) (by omega)) ?_
  rintro _ w2 ⟨hx2, ta, ab, ao, acap, l, rfl, tra, hea, hlea⟩
  refine cl (grown_row (by omega) (by omega) (t.ext (hx1.trans hx2).1) (by omega)) ?_
  rintro _ w3 ⟨hx3, tb, bb, bo, bcap, m, rfl, trb, heb, hleb⟩
  have hx13 : Ext w1 w3 := hx2.trans hx3
  have hx03 : Ext w w3 := hx1.trans hx13
  have tra3 := tra.ext hx3.1
  by_cases hk : k = k2
  · subst hk
    refine cl (subset_spec tra3 trb (by omega)) ?_
    rintro _ w4 ⟨hx4, rfl⟩
    refine cl (touch_spec (tra3.ext hx4.1) (trb.ext hx4.1) (by omega)) ?_
    rintro _ w5 ⟨hx5, jl, rfl, hjs, hjm⟩
    have hx35 : Ext w3 w5 := hx4.trans hx5
    refine tsT rfl ?_
    refine cl (ref_join_spec (k := k) ⟨1, false, false, true⟩ ((hea.ext hx3.1).ext hx35.1) (heb.ext hx35.1) tra.srt trb.srt (by omega) tra.ok trb.ok (by omega)) ?_
    rintro _ w6 ⟨hx6, ja, jcap, jl2, rfl, hje, hjs2, hjm2, hjl⟩
    have hjj : jl2 = jl := srt_ext hjs2 hjs fun e => (hjm2 e).trans (hjm e).symm
    have hsub := sub_len tra.srt trb.srt hjs2 hjm2
    refine tsT rfl ?_
    refine tsT rfl ?_
    refine ts (fun g5 => ?_) (fun g5 => ?_)
    · refine tsT (by rw [hsub, decide_eq_true]; omega) ?_
      refine ts (fun g6 => ?_) (fun g6 => ?_)
      · refine tsT (by rw [decide_eq_true]; rw [← hjj]; omega) ?_
        exact ⟨(hx03.trans hx35).trans hx6, rfl⟩
      · refine tsT (by rw [decide_eq_false]; rw [← hjj]; omega) ?_
        exact ⟨(hx03.trans hx35).trans hx6, rfl⟩
    · refine tsT (by rw [hsub, decide_eq_false]; omega) ?_
      refine ts (fun g6 => ?_) (fun g6 => ?_)
      · refine tsT (by rw [decide_eq_true]; rw [← hjj]; omega) ?_
        exact ⟨(hx03.trans hx35).trans hx6, rfl⟩
      · refine tsT (by rw [decide_eq_false]; rw [← hjj]; omega) ?_
        exact ⟨(hx03.trans hx35).trans hx6, rfl⟩
  · refine cl (subset_dim tra3 trb hk) ?_
    rintro _ w4 ⟨hx4, rfl⟩
    refine cl (touch_dim (tra3.ext hx4.1) (trb.ext hx4.1) hk) ?_
    rintro _ w5 ⟨hx5, rfl⟩
    refine tsF (show ¬ (k : Int) = k2 by omega) ?_
    refine tsT rfl ?_
    refine tsT rfl ?_
    exact ⟨(hx03.trans hx4).trans hx5, rfl⟩

end Go.Proofs.Ytlpndcfkjkbeoaa

namespace Go.Proofs.Ytlpndcfkjkbeoaa
open Go Go.Pan Go.ChangeShapes Go.WideShapes Go.ChangeAt Go.RowKit

/-! ### what comes in, as it is read -/

section
variable {H : Type} {enc : TypeId × Value → H} {W : World} {base : Nat} {spare : Nat → Bool} {held : Bool}

theorem cell_plain {w : World} {a : Addr} {v : Value} (h : w.cell? a = some v) : a = ⟨a.block, a.off, none⟩ := by
  obtain ⟨b, o, s⟩ := a
  have h' : cel w.heap ⟨b, o, s⟩ = some v := h
  unfold cel at h'
  split at h'
  · cases s with
    | none => rfl
    | some _ => simp at h'
  · cases h'

theorem u64_of {n : Int} (h : (Lit.int .u64 n).wf = true) : ∃ m : Nat, n = m ∧ m < 2 ^ 64 := by
  simp only [Lit.wf, IntKind.min, IntKind.max, IntKind.signed, IntKind.bits, Bool.false_eq_true, if_false] at h
  simp only [Bool.and_eq_true, decide_eq_true_eq] at h
  exact ⟨n.toNat, by omega, by omega⟩

theorem fr_sl {fuel : Nat} {cs : List Value} {x : DataW H × List MemPlace} (h : DataW.trod enc Try.prog W base spare held fuel T_sl_u64 cs = some x) : ∃ v p, cs = [v] ∧ Sl W.heap v p ∧ p.length ≤ 9223372036854775807 := by
  rcases open_ints (t := T_sl_u64) (e := T_u64) (k := .u64) (by kernel_rfl) (by kernel_rfl) (by kernel_rfl) h with ⟨hcs, _⟩ | ⟨a, len, cap, zs, hcs, _, hl, hm, hz, _, hcell, hwz⟩
  · exact ⟨_, [], hcs, .nil none 0, Nat.zero_le _⟩
  · have hm' : cap ≤ 9223372036854775807 := hm
    cases len with
    | zero => exact ⟨_, [], hcs, .nil (some a) cap, Nat.zero_le _⟩
    | succ len =>
      have hzl : len + 1 ≤ zs.length := by rw [hz]; split <;> omega
      have ha := cell_plain (hcell 0 (by omega))
      have ha0 : a = ⟨a.block, a.off, none⟩ := by
        have h0 : a.add 0 = a := by unfold Addr.add; simp
        rw [h0] at ha; exact ha
      have hzn : ∀ i (h : i < len + 1), ∃ m : Nat, zs.getD i 0 = m ∧ m < 2 ^ 64 := fun i hi => by
        refine u64_of (hwz _ ?_)
        rw [List.getD_eq_getElem?_getD, List.getElem?_eq_getElem (by omega)]
        exact List.getElem_mem _
      obtain ⟨f, hf⟩ : ∃ f : Nat → Nat, ∀ i, i < len + 1 → zs.getD i 0 = f i ∧ f i < 2 ^ 64 := Go.Deep.choose_lt (fun i hi => hzn i hi)
      have hpl : ((List.range (len + 1)).map f).length = len + 1 := by simp
      refine ⟨_, (List.range (len + 1)).map f, hcs, ?_, by rw [hpl]; omega⟩
      have := Sl.some (h := W.heap) a.block a.off cap ((List.range (len + 1)).map f) (fun j c hj => ?_) (fun c hc => ?_)
      · rw [hpl, ← ha0] at this; exact this
      · have hj' := (List.getElem?_eq_some_iff.1 hj).1
        rw [hpl] at hj'
        have h1 : W.cell? (a.add j) = _ := hcell j (by omega)
        rw [(hf j hj').1] at h1
        rw [List.getElem?_map, List.getElem?_range hj'] at hj
        simp only [Option.map_some, Option.some.injEq] at hj
        rw [ha0, add_off, hj] at h1
        exact h1
      · obtain ⟨i, hi, rfl⟩ := List.mem_map.1 hc
        exact (hf i (List.mem_range.1 hi)).2

/-- a struct's fields, by their types and places -/
theorem struct_fields {P : Program} {t : TypeId} {L : List (TypeId × Nat)} (h : (P.underlying t).map (fun d => match d with | .struct fs => fs.toList.map fun f => (f.type, f.offset) | _ => []) = some L) (hne : L ≠ []) :
    ∃ fs, P.underlying t = some (.struct fs) ∧ fs.toList.map (fun f => (f.type, f.offset)) = L := by
  cases hd : P.underlying t with
  | none => rw [hd] at h; cases h
  | some d =>
    rw [hd] at h
    cases d
    case struct fs => exact ⟨fs, rfl, by simpa using h⟩
    all_goals (simp only [Option.map_some, Option.some.injEq] at h; exact absurd h.symm hne)

theorem struct_at {fuel : Nat} {t : TypeId} {cs : List Value} {x : DataW H × List MemPlace} {L : List (TypeId × Nat)} (h : (Try.prog.underlying t).map (fun d => match d with | .struct fs => fs.toList.map fun f => (f.type, f.offset) | _ => []) = some L) (hne : L ≠ [])
    (hx : DataW.trod enc Try.prog W base spare held fuel t cs = some x) : cs.length = Try.prog.cellsOf t ∧ ∃ n, ∀ (i : Nat) (ft : TypeId) (fo : Nat), L[i]? = some (ft, fo) → ∃ y, DataW.trod enc Try.prog W base spare held n ft ((cs.drop fo).take (Try.prog.cellsOf ft)) = some y := by
  obtain ⟨fs, hu, hL⟩ := struct_fields h hne
  obtain ⟨xs, n, -, -, hl, hlen, hf⟩ := DataW.trod_struct hu hx
  refine ⟨hl, n, fun i ft fo hi => ?_⟩
  rw [← hL, List.getElem?_map] at hi
  cases hfi : fs.toList[i]? with
  | none => rw [hfi] at hi; cases hi
  | some f =>
    rw [hfi] at hi
    simp only [Option.map_some, Option.some.injEq, Prod.mk.injEq] at hi
    have h1 := hf i f (by simpa using hfi)
    have hil : i < xs.length := by
      rw [hlen]
      have := (List.getElem?_eq_some_iff.1 hfi).1
      simpa using this
    rw [List.getElem?_eq_getElem hil, hi.1, hi.2] at h1
    exact ⟨_, h1⟩

theorem flatten_len {m : Nat} : ∀ {css : List (List Value)}, (∀ cs ∈ css, cs.length = m) → css.flatten.length = css.length * m
  | [], _ => by simp
  | c :: css, h => by
    rw [List.flatten_cons, List.length_append, flatten_len (fun cs h2 => h cs (List.mem_cons_of_mem _ h2)), h c (by simp), List.length_cons, Nat.succ_mul]; omega

/-- a slice of elements of any kind -/
theorem fr_lst {α : Type} [Inhabited α] {t e : TypeId} {m : Nat} {E : Array Obj → List Value → α → Prop} (ht : Try.prog.underlying t = some (.slice e)) (hc : Try.prog.cellsOf e = m) (hm : 0 < m)
    (hE : ∀ {n : Nat} {cs : List Value} {x : DataW H × List MemPlace}, DataW.trod enc Try.prog W base spare held n e cs = some x → ∃ a, E W.heap cs a)
    {fuel : Nat} {cs : List Value} {x : DataW H × List MemPlace} (h : DataW.trod enc Try.prog W base spare held fuel t cs = some x) : ∃ v l, cs = [v] ∧ Lst E m W.heap v l ∧ l.length ≤ 9223372036854775807 := by
  rcases Go.Deep.open_slice ht h with ⟨hcs, _⟩ | ⟨a, len, cap, k, n, D, Pl, hcs, _, hl, hmx, hk, _, hel⟩
  · exact ⟨_, [], hcs, ⟨[], rfl, .nil none 0, by simp, fun i h1 => by simp at h1⟩, Nat.zero_le _⟩
  · have hm' : cap ≤ 9223372036854775807 := hmx
    cases len with
    | zero => exact ⟨_, [], hcs, ⟨[], rfl, .nil (some a) cap, by simp, fun i h1 => by simp at h1⟩, Nat.zero_le _⟩
    | succ len =>
      have hkl : len + 1 ≤ k := by rw [hk]; split <;> omega
      rw [hc] at hel
      have key : ∀ i, i < len + 1 → ∃ s : List Value × α, (s.1.length = m ∧ ∀ j, j < m → W.cell? ((a.add (i * m)).add j) = s.1[j]?) ∧ E W.heap s.1 s.2 := fun i hi => by
        obtain ⟨cs', h1, h2⟩ := hel i (by omega)
        obtain ⟨_, h3, h4⟩ := World.cells?_some h1
        obtain ⟨y, hy⟩ := hE h2
        exact ⟨(cs', y), ⟨h3, h4⟩, hy⟩
      haveI : Inhabited (List Value × α) := ⟨([], default)⟩
      obtain ⟨f, hf⟩ := Go.Deep.choose_lt key
      have ha0 : a = ⟨a.block, a.off, none⟩ := by
        have h0 : (a.add (0 * m)).add 0 = a := by unfold Addr.add; simp
        obtain ⟨⟨h1, h2⟩, -⟩ := hf 0 (by omega)
        have := h2 0 hm
        rw [h0, List.getElem?_eq_getElem (by omega)] at this
        exact cell_plain this
      have hll : ((List.range (len + 1)).map fun i => (f i).2).length = len + 1 := by simp
      refine ⟨_, (List.range (len + 1)).map fun i => (f i).2, hcs, ⟨(List.range (len + 1)).map fun i => (f i).1, by simp, ?_, fun cs hcs => ?_, fun i h1 h2 => ?_⟩, by rw [hll]; omega⟩
      · rw [hll, ha0]
        refine .some a.block a.off cap (len + 1) _ (celsAt_cells fun j v hj => ?_)
        have hlen : ∀ cs ∈ (List.range (len + 1)).map fun i => (f i).1, cs.length = m := fun cs hcs => by
          obtain ⟨i, hi, rfl⟩ := List.mem_map.1 hcs
          exact (hf i (List.mem_range.1 hi)).1.1
        have hfl : ((List.range (len + 1)).map fun i => (f i).1).flatten.length = (len + 1) * m := by
          rw [flatten_len hlen, List.length_map, List.length_range]
        have hjl := (List.getElem?_eq_some_iff.1 hj).1
        rw [hfl] at hjl
        have hjm : j % m < m := Nat.mod_lt _ hm
        have hjd : j / m < len + 1 := Nat.div_lt_of_lt_mul (by rw [Nat.mul_comm]; exact hjl)
        have hdm := Nat.div_add_mod j m
        have he := flatten_elem hlen (j / m) (by simpa using hjd)
        have hj2 : ((List.range (len + 1)).map fun i => (f i).1)[j / m]? = some (f (j / m)).1 := by
          rw [List.getElem?_map, List.getElem?_range hjd]; rfl
        have hget : (f (j / m)).1[j % m]? = some v := by
          rw [List.getElem_map, List.getElem_range] at he
          rw [← he, List.getElem?_take, if_pos hjm, List.getElem?_drop, show j / m * m + j % m = j by rw [Nat.mul_comm]; exact hdm]
          exact hj
        have h4 := (hf (j / m) hjd).1.2 (j % m) hjm
        rw [hget, ha0, add_off, add_off] at h4
        have : a.off + j / m * m + j % m = a.off + j := by rw [Nat.add_assoc, Nat.mul_comm, hdm]
        rw [this] at h4
        exact h4
      · obtain ⟨i, hi, rfl⟩ := List.mem_map.1 hcs
        exact (hf i (List.mem_range.1 hi)).1.1
      · rw [List.length_map, List.length_range] at h1
        rw [List.getElem_map, List.getElem_map, List.getElem_range]
        exact (hf i h1).2

theorem len3 {α : Type} {l : List α} (h : l.length = 3) : ∃ a b c, l = [a, b, c] := by
  match l, h with
  | [a, b, c], _ => exact ⟨a, b, c, rfl⟩
theorem len2 {α : Type} {l : List α} (h : l.length = 2) : ∃ a b, l = [a, b] := by
  match l, h with
  | [a, b], _ => exact ⟨a, b, rfl⟩

theorem fr_act {fuel : Nat} {cs : List Value} {x : DataW H × List MemPlace} (h : DataW.trod enc Try.prog W base spare held fuel T_law07_Act cs = some x) : ∃ a, ActE W.heap cs a := by
  obtain ⟨hl, n, hf⟩ := struct_at (L := [(T_bool, 0), (T_sl_u64, 1), (T_u64, 2)]) (by kernel_rfl) (by simp) h
  have hl3 : cs.length = 3 := hl.trans (by kernel_rfl)
  obtain ⟨y0, h0⟩ := hf 0 _ _ rfl
  obtain ⟨y1, h1⟩ := hf 1 _ _ rfl
  obtain ⟨y2, h2⟩ := hf 2 _ _ rfl
  rw [show Try.prog.cellsOf T_bool = 1 by kernel_rfl] at h0
  rw [show Try.prog.cellsOf T_sl_u64 = 1 by kernel_rfl] at h1
  rw [show Try.prog.cellsOf T_u64 = 1 by kernel_rfl] at h2
  obtain ⟨c0, c1, c2, rfl⟩ := len3 hl3
  obtain ⟨b, hb, -⟩ := DataW.trod_bool (t := T_bool) (by kernel_rfl) h0
  obtain ⟨v, p, hv, hs, -⟩ := fr_sl h1
  obtain ⟨z, hz, -, hw⟩ := DataW.trod_int (t := T_u64) (k := .u64) (by kernel_rfl) h2
  obtain ⟨m, rfl, hm⟩ := u64_of hw
  have e0 : c0 = .bool b := (List.cons.inj hb).1
  have e1 : c1 = v := (List.cons.inj hv).1
  have e2 : c2 = U m := (List.cons.inj hz).1
  subst e0 e1 e2
  exact ⟨⟨b, p, m⟩, c1, rfl, hs, hm⟩

theorem fr_acts {fuel : Nat} {cs : List Value} {x : DataW H × List MemPlace} (h : DataW.trod enc Try.prog W base spare held fuel T_sl_law07_Act cs = some x) : ∃ v l, cs = [v] ∧ ActL W.heap v l ∧ l.length ≤ 9223372036854775807 :=
  haveI : Inhabited Act := ⟨⟨false, [], 0⟩⟩
  fr_lst (e := T_law07_Act) (by kernel_rfl) (by kernel_rfl) (by decide) (fun h => fr_act h) h
end

theorem below_of {W w : World} (x : Ext W w) : Below W.heap.size W w := ⟨x.2.1, x.2.2.1, x.2.2.2, x.1.1, fun k hk => x.1.2 k hk⟩

theorem own_ : ownKnob Try.prog.godebug = none := by kernel_rfl
theorem laidOut_ : laidOutB Try.prog = true := by kernel_rfl

end Go.Proofs.Ytlpndcfkjkbeoaa
