/- Of any two trees behind any acts (up to 40 each) whether the one's points are all the other one's, and whether they have one in common, are what the document's list says, or there is its error (unlike numbers of coordinates): the law SetsAsk answers true for every input. No condition. -/
import Derived.Test.YtlpndcfkjkbeoaaRows
import Derived.Lib.SmallJoins
import Derived.Test.YtlpndcfkjkbeoaaMd
namespace Go.Proofs.Ytlpndcfkjkbeoaa
open Go Go.Pan Go.ChangeShapes Go.WideShapes Go.ChangeAt Go.RowKit
open Go.ChangeMaps (open_string shut_string)

set_option maxRecDepth 100000 in
theorem setsAsk_lifted (os : Os) (started : os.Started) (H : Type) (enc : TypeId × Value → H) :
    ReturnsInHanded {} Try.checked os 4 .any (Rows.setsAskSpec.pre6 enc Try.prog Try.f4 Rows.setsAskRow.domain false) (Rows.setsAskSpec.post enc Try.prog Try.f4 false true false false) := by
  refine returnsInHanded_of_change (C := Try.checked) own_ started (by kernel_rfl) Try.func4
    (ChangeSpec.witness6 (enc := enc) (C := Try.checked) false ⟨#[], #[.int .i64 0, .int .i64 0, .slice none 0 0, .slice none 0 0], []⟩ 8 (by kernel_rfl) (by kernel_rfl) (by kernel_rfl) (by kernel_rfl)) ?_
  intro W base args ds gs before hval0 hW hcnd _
  have hval : ∀ (j : Nat) t v, Try.f4.params[j]? = some t → args[j]? = some v → Value.okWide Try.prog W .any base t v := hval0
  have hW' := hW
  obtain ⟨p, q, hA0, hV, rfl, hfz, hnd⟩ := hW
  have hA : DataW.TrodAll enc Try.prog W 0 (fun _ => true) true Try.f4.params.toList args.toList ds p := hA0
  rw [Try.params4] at hA hval
  obtain ⟨v0, vs0, d0, ds0, p0, q0, hargs, rfl, rfl, h0, r0⟩ := trodAll_cons hA
  obtain ⟨v1, vs1, d1, ds1, p1, q1, rfl, rfl, rfl, h1, r1⟩ := trodAll_cons r0
  obtain ⟨v2, vs2, d2, ds2, p2, q2, rfl, rfl, rfl, h2, r2⟩ := trodAll_cons r1
  obtain ⟨v3, vs3, d3, ds3, p3, q3, rfl, rfl, rfl, h3, r3⟩ := trodAll_cons r2
  obtain ⟨rfl, rfl, rfl⟩ := trodAll_nil r3
  obtain rfl : args = #[v0, v1, v2, v3] := by cases args; simp_all
  obtain ⟨rfl, rfl⟩ := trodVars_none hV
  obtain ⟨a0, rfl, rfl, rfl, w0⟩ := open_int (t := T_i64) (k := .i64) (by kernel_rfl) (hval 0 T_i64 v0 rfl rfl) h0
  obtain ⟨a1, rfl, rfl, rfl, w1⟩ := open_int (t := T_i64) (k := .i64) (by kernel_rfl) (hval 1 T_i64 v1 rfl rfl) h1
  have k2 := h2
  have lt2 : ∀ x ∈ p2, x.block < W.heap.size := by obtain ⟨m, hm⟩ := k2; exact DataW.trod_lt m _ _ _ hm
  obtain ⟨a2, len2, cap2, rfl⟩ := okWide_slice (t := T_sl_law07_Act) (e := T_law07_Act) (by kernel_rfl) (hval 2 T_sl_law07_Act v2 rfl rfl)
  obtain ⟨m2, hm2⟩ := h2
  obtain ⟨u2, l2, hu2, s2, b2⟩ := fr_acts hm2
  have e2 : (.slice a2 len2 cap2 : Value) = u2 := (List.cons.inj (show [(.slice a2 len2 cap2 : Value)] = [u2] from hu2)).1
  rw [← e2] at s2
  have k3 := h3
  have lt3 : ∀ x ∈ p3, x.block < W.heap.size := by obtain ⟨m, hm⟩ := k3; exact DataW.trod_lt m _ _ _ hm
  obtain ⟨a3, len3, cap3, rfl⟩ := okWide_slice (t := T_sl_law07_Act) (e := T_law07_Act) (by kernel_rfl) (hval 3 T_sl_law07_Act v3 rfl rfl)
  obtain ⟨m3, hm3⟩ := h3
  obtain ⟨u3, l3, hu3, s3, b3⟩ := fr_acts hm3
  have e3 : (.slice a3 len3 cap3 : Value) = u3 := (List.cons.inj (show [(.slice a3 len3 cap3 : Value)] = [u3] from hu3)).1
  rw [← e3] at s3
  clear hA0 hval0
  refine ((setsAsk_law (w := W) s2 b2 s3 b3).calls (by kernel_rfl)).mono fun e W' ⟨v, he, hx, hr⟩ => ?_
  subst he hr
  have bel : Below W.heap.size W W' := below_of hx
  exact ⟨_, rfl, _, _, _, [], _, [], hW', trodAll_mk1 (shut_bool (t := T_bool) (by kernel_rfl) _), (trodAll_cons_mk (shut_int (t := T_i64) (k := .i64) (by kernel_rfl) w0) (trodAll_cons_mk (shut_int (t := T_i64) (k := .i64) (by kernel_rfl) w1) (trodAll_cons_mk (Below.trod laidOut_ (by kernel_rfl) (of_decide_eq_true (by kernel_rfl)) k2 bel lt2) (trodAll_cons_mk (Below.trod laidOut_ (by kernel_rfl) (of_decide_eq_true (by kernel_rfl)) k3 bel lt3) trodAll_mk0)))), rfl, bel.frame _, fun h => by cases h⟩

theorem setsAsk_over : Rows.setsAskRow.holds Try.pinned (OpenSpec.ofChange Rows.setsAskSpec) :=
  OpenClaim.holds_of_wide 4 Try.f4 rfl rfl rfl rfl rfl rfl rfl ⟨rfl, rfl, rfl, rfl, rfl⟩ rfl rfl rfl rfl rfl (by kernel_rfl) Try.func4 (by kernel_rfl)
    (of_decide_eq_true (by kernel_rfl)) (by unfold Func.isWrapper; first | (rw [if_pos (by decide +kernel)]; kernel_rfl) | (rw [if_neg (by decide +kernel)]; exact ⟨rfl, rfl⟩))
    (fun os started H enc _ => setsAsk_lifted os started H enc)

theorem setsAsk_holds : Rows.SetsAskSaid := setsAsk_over
#print axioms setsAsk_holds
end Go.Proofs.Ytlpndcfkjkbeoaa
