/- Part of a claim: own texts Ar, Zord, Zb, Zc, Ro, Zs, Op, Zt, Zu, Zv, Zw, Zx, Zy, Na, Nb, Nc, Nd, Ne, Ta, Tb, Tc, Td, Ra, Rb, Rc, Rd, Re, Rf, Rg, Rh, La, Lb, merged by a program of this claim. -/
import Derived.Lib.AppendZerosOnto
import Derived.Lib.Overlaps
import Derived.Laws.OwnMore
import Derived.Test.YtlpndcfkjkbeoaaMb
namespace Go.Pan
open Go

/-! ## Go's integers as numbers -/

theorem toInt64 (a : Nat) (h : a < 2 ^ 64) : (BitVec.ofInt 64 (a : Int)).toNat = a := by
  simp [BitVec.ofInt]
  omega

theorem and_u64 {a b : Nat} (ha : a < 2 ^ 64) (hb : b < 2 ^ 64) : IntKind.u64.wrap ((BitVec.ofInt IntKind.u64.bits (a : Int) &&& BitVec.ofInt IntKind.u64.bits (b : Int)).toNat : Int) = ((a &&& b : Nat) : Int) := by
  show IntKind.u64.wrap ((BitVec.ofInt 64 (a : Int) &&& BitVec.ofInt 64 (b : Int)).toNat : Int) = _
  rw [BitVec.toNat_and, toInt64 a ha, toInt64 b hb]
  have : a &&& b ≤ a := Nat.and_le_left
  exact wru64 rfl (by omega) (by omega)
theorem or_u64 {a b : Nat} (ha : a < 2 ^ 64) (hb : b < 2 ^ 64) : IntKind.u64.wrap ((BitVec.ofInt IntKind.u64.bits (a : Int) ||| BitVec.ofInt IntKind.u64.bits (b : Int)).toNat : Int) = ((a ||| b : Nat) : Int) := by
  show IntKind.u64.wrap ((BitVec.ofInt 64 (a : Int) ||| BitVec.ofInt 64 (b : Int)).toNat : Int) = _
  rw [BitVec.toNat_or, toInt64 a ha, toInt64 b hb]
  have : a ||| b < 2 ^ 64 := Nat.or_lt_two_pow ha hb
  exact wru64 rfl (by omega) (by omega)
theorem xor_u64 {a b : Nat} (ha : a < 2 ^ 64) (hb : b < 2 ^ 64) : IntKind.u64.wrap ((BitVec.ofInt IntKind.u64.bits (a : Int) ^^^ BitVec.ofInt IntKind.u64.bits (b : Int)).toNat : Int) = ((a ^^^ b : Nat) : Int) := by
  show IntKind.u64.wrap ((BitVec.ofInt 64 (a : Int) ^^^ BitVec.ofInt 64 (b : Int)).toNat : Int) = _
  rw [BitVec.toNat_xor, toInt64 a ha, toInt64 b hb]
  have : a ^^^ b < 2 ^ 64 := Nat.xor_lt_two_pow ha hb
  exact wru64 rfl (by omega) (by omega)
theorem or_i64 {a b : Nat} (ha : a < 2 ^ 63) (hb : b < 2 ^ 63) : IntKind.i64.wrap ((BitVec.ofInt IntKind.i64.bits (a : Int) ||| BitVec.ofInt IntKind.i64.bits (b : Int)).toNat : Int) = ((a ||| b : Nat) : Int) := by
  show IntKind.i64.wrap ((BitVec.ofInt 64 (a : Int) ||| BitVec.ofInt 64 (b : Int)).toNat : Int) = _
  rw [BitVec.toNat_or, toInt64 a (by omega), toInt64 b (by omega)]
  have : a ||| b < 2 ^ 63 := Nat.or_lt_two_pow ha hb
  exact wr64 rfl (by omega) (by omega)
theorem and_i64 {a b : Nat} (ha : a < 2 ^ 63) (hb : b < 2 ^ 63) : IntKind.i64.wrap ((BitVec.ofInt IntKind.i64.bits (a : Int) &&& BitVec.ofInt IntKind.i64.bits (b : Int)).toNat : Int) = ((a &&& b : Nat) : Int) := by
  show IntKind.i64.wrap ((BitVec.ofInt 64 (a : Int) &&& BitVec.ofInt 64 (b : Int)).toNat : Int) = _
  rw [BitVec.toNat_and, toInt64 a (by omega), toInt64 b (by omega)]
  have : a &&& b ≤ a := Nat.and_le_left
  exact wr64 rfl (by omega) (by omega)

theorem shr_nat (a n : Nat) (k : Nat) (hk : n ≤ k) : (a : Int).fdiv (2 ^ (min ((n : Int).toNat) k)) = ((a / 2 ^ n : Nat) : Int) := by
  have : min ((n : Int).toNat) k = n := by simp; omega
  rw [this, Int.fdiv_eq_ediv_of_nonneg _ (Int.le_of_lt (Int.pow_pos (by decide)))]
  simp

theorem shl_i64 {a n : Nat} (hn : n ≤ 64) (h : a * 2 ^ n < 2 ^ 63) : IntKind.i64.wrap ((a : Int) * 2 ^ (min ((n : Int).toNat) IntKind.i64.bits)) = ((a * 2 ^ n : Nat) : Int) := by
  have : min ((n : Int).toNat) IntKind.i64.bits = n := by simp [IntKind.bits]; omega
  rw [this]
  refine wr64 (by simp) (by omega) (by omega)
theorem shl_u64 {a n : Nat} (hn : n ≤ 64) : IntKind.u64.wrap ((a : Int) * 2 ^ (min ((n : Int).toNat) IntKind.u64.bits)) = ((a * 2 ^ n % 2 ^ 64 : Nat) : Int) := by
  have : min ((n : Int).toNat) IntKind.u64.bits = n := by simp [IntKind.bits]; omega
  rw [this, wru64m]
  simp

/-- 'i + 1' where nothing goes round -/
theorem inc64 {a : Nat} (h : a < 9223372036854775807) : IntKind.i64.wrap ((a : Int) + 1) = ((a + 1 : Nat) : Int) := wr64 (by simp) (by omega) (by omega)
theorem sml64 {a : Nat} (h : a ≤ 9223372036854775807) : IntKind.i64.wrap (a : Int) = (a : Int) := wr64 rfl (by omega) (by omega)

/-! ## Rows of cells -/

theorem setL_one {l : List Value} {j : Nat} {x : Value} (h : j < l.length) : setL l j [x] = l.set j x := by
  unfold setL
  simp only [List.length_singleton]
  rw [List.append_assoc, List.singleton_append]
  exact (List.set_eq_take_append_cons_drop ..).trans (by rw [if_pos h]) |>.symm

/-- a row that is gone through: up to j the new ones, then the old ones, then what is spare -/
def mixRow {α : Type} (f : α → Value) (A B : List α) (R : List Value) (j : Nat) : List Value := (A.take j ++ B.drop j).map f ++ R

theorem mixRow_get {α : Type} {f : α → Value} {A B : List α} {R : List Value} {j : Nat} (h : A.length = B.length) (hj : j < B.length) : (mixRow f A B R j)[j]? = some (f B[j]) := by
  unfold mixRow
  have hl : (A.take j).length = j := by rw [List.length_take]; omega
  rw [List.getElem?_append_left (by rw [List.length_map, List.length_append, hl, List.length_drop]; omega), List.getElem?_map, List.getElem?_append_right (by omega), hl, Nat.sub_self, List.getElem?_drop, Nat.add_zero, List.getElem?_eq_getElem hj]
  rfl

theorem mixRow_len {α : Type} {f : α → Value} {A B : List α} {R : List Value} {j : Nat} (h : A.length = B.length) (hj : j ≤ B.length) : (mixRow f A B R j).length = B.length + R.length := by
  unfold mixRow
  rw [List.length_append, List.length_map, List.length_append, List.length_take, List.length_drop]; omega

theorem mixRow_set {α : Type} {f : α → Value} {A B : List α} {R : List Value} {j : Nat} (h : A.length = B.length) (hj : j < B.length) : setL (mixRow f A B R j) j [f (A[j]'(by omega))] = mixRow f A B R (j + 1) := by
  rw [setL_one (by rw [mixRow_len h (by omega)]; omega)]
  unfold mixRow
  have hl : (A.take j).length = j := by rw [List.length_take]; omega
  rw [List.set_append_left _ _ (by rw [List.length_map, List.length_append, hl, List.length_drop]; omega)]
  congr 1
  rw [List.take_succ_eq_append_getElem (show j < A.length by omega), List.drop_eq_getElem_cons hj]
  simp only [List.map_append, List.map_cons, List.append_assoc, List.map_nil, List.cons_append, List.nil_append]
  rw [List.set_append_right _ _ (by rw [List.length_map]; omega), List.length_map, hl, Nat.sub_self, List.set_cons_zero]

theorem mixRow_end {α : Type} {f : α → Value} {A B : List α} {R : List Value} (h : A.length = B.length) : mixRow f A B R B.length = A.map f ++ R := by
  unfold mixRow
  rw [List.drop_length, List.append_nil, List.take_of_length_le (by omega)]
theorem mixRow_zero {α : Type} {f : α → Value} {A B : List α} {R : List Value} : mixRow f A B R 0 = B.map f ++ R := by
  unfold mixRow
  rw [List.take_zero, List.nil_append, List.drop_zero]

end Go.Pan

-- plain: the numbers of points by the z-order
namespace Go.Pan

/-- the address of a point at level 0 -/
def dig0 : List Nat → Nat
  | [] => 0
  | c :: p => c % 2 * 2 ^ p.length + dig0 p

def shr (n : Nat) (p : List Nat) : List Nat := p.map (· / 2 ^ n)

def dig (n : Nat) (p : List Nat) : Nat := dig0 (shr n p)

/-- the number of a point by its m lowest levels -/
def Zl : Nat → List Nat → Nat
  | 0, _ => 0
  | m + 1, p => Zl m (shr 1 p) * 2 ^ p.length + dig0 p

def Z (p : List Nat) : Nat := Zl 64 p

def small (m : Nat) (p : List Nat) : Prop := ∀ c ∈ p, c < 2 ^ m

theorem shr_length (n : Nat) (p : List Nat) : (shr n p).length = p.length := by simp [shr]

theorem shr_shr (m n : Nat) (p : List Nat) : shr m (shr n p) = shr (n + m) p := by
  simp only [shr, List.map_map]
  apply List.map_congr_left
  intro c _
  simp [Nat.div_div_eq_div_mul, Nat.pow_add]

theorem shr_zero (p : List Nat) : shr 0 p = p := by simp [shr]

theorem dig0_lt (p : List Nat) : dig0 p < 2 ^ p.length := by
  induction p with
  | nil => simp [dig0]
  | cons c p ih =>
    simp only [dig0, List.length_cons, Nat.pow_succ]
    have : c % 2 < 2 := Nat.mod_lt _ (by omega)
    rcases Nat.lt_or_ge (c % 2) 1 with h | h
    · have : c % 2 = 0 := by omega
      rw [this]; omega
    · have : c % 2 = 1 := by omega
      rw [this]; omega

theorem dig_lt (n : Nat) (p : List Nat) : dig n p < 2 ^ p.length := by
  have := dig0_lt (shr n p)
  rwa [shr_length] at this

theorem dig0_inj (p : List Nat) : ∀ q : List Nat, p.length = q.length → dig0 p = dig0 q → p.map (· % 2) = q.map (· % 2) := by
  induction p with
  | nil => intro q h _; cases q with | nil => rfl | cons => simp at h
  | cons c p ih =>
    intro q h e
    cases q with
    | nil => simp at h
    | cons d q =>
      simp only [List.length_cons, Nat.add_right_cancel_iff] at h
      simp only [dig0, h] at e
      have h1 := dig0_lt p
      have h2 := dig0_lt q
      rw [h] at h1
      have hc : c % 2 < 2 := Nat.mod_lt _ (by omega)
      have hd : d % 2 < 2 := Nat.mod_lt _ (by omega)
      have e1 : c % 2 = d % 2 := by
        have a := congrArg (· / 2 ^ q.length) e
        simp only [Nat.mul_comm _ (2 ^ q.length)] at a
        rwa [Nat.mul_add_div (by exact Nat.two_pow_pos _), Nat.mul_add_div (by exact Nat.two_pow_pos _), Nat.div_eq_of_lt h1, Nat.div_eq_of_lt h2] at a
      rw [e1] at e
      simp only [List.map_cons, List.cons.injEq]
      exact ⟨e1, ih q h (by omega)⟩

theorem Zl_lt (m : Nat) : ∀ p : List Nat, Zl m p < (2 ^ p.length) ^ m := by
  induction m with
  | zero => intro p; simp [Zl]
  | succ m ih =>
    intro p
    have h1 := ih (shr 1 p)
    rw [shr_length] at h1
    have h2 := dig0_lt p
    simp only [Zl, Nat.pow_succ (n := 2 ^ p.length)]
    calc Zl m (shr 1 p) * 2 ^ p.length + dig0 p < Zl m (shr 1 p) * 2 ^ p.length + 2 ^ p.length := by omega
      _ = (Zl m (shr 1 p) + 1) * 2 ^ p.length := by rw [Nat.add_mul, Nat.one_mul]
      _ ≤ (2 ^ p.length) ^ m * 2 ^ p.length := Nat.mul_le_mul_right _ h1

theorem Zl_div (m : Nat) (p : List Nat) : Zl (m + 1) p / 2 ^ p.length = Zl m (shr 1 p) := by
  simp only [Zl, Nat.mul_comm _ (2 ^ p.length)]
  rw [Nat.mul_add_div (Nat.two_pow_pos _), Nat.div_eq_of_lt (dig0_lt p)]; rfl

theorem Zl_mod (m : Nat) (p : List Nat) : Zl (m + 1) p % 2 ^ p.length = dig0 p := by
  simp only [Zl, Nat.mul_comm _ (2 ^ p.length), Nat.mul_add_mod]
  exact Nat.mod_eq_of_lt (dig0_lt p)

theorem Zl_div_pow (n : Nat) : ∀ (m : Nat) (p : List Nat), Zl (m + n) p / (2 ^ p.length) ^ n = Zl m (shr n p) := by
  induction n with
  | zero => intro m p; simp [shr_zero]
  | succ n ih =>
    intro m p
    have h := ih m (shr 1 p)
    rw [shr_length, shr_shr, Nat.add_comm 1 n] at h
    rw [← h, ← Zl_div, Nat.pow_succ, Nat.mul_comm, ← Nat.div_div_eq_div_mul]
    rfl

theorem map_half_inj (p : List Nat) : ∀ q : List Nat, shr 1 p = shr 1 q → p.map (· % 2) = q.map (· % 2) → p = q := by
  induction p with
  | nil => intro q h _; cases q with | nil => rfl | cons => simp [shr] at h
  | cons c p ih =>
    intro q h e
    cases q with
    | nil => simp [shr] at h
    | cons d q =>
      simp only [shr, List.map_cons, List.cons.injEq, Nat.pow_one] at h e
      rw [show c = d by omega, ih q (by simpa [shr] using h.2) e.2]

theorem Zl_inj (m : Nat) : ∀ p q : List Nat, p.length = q.length → small m p → small m q → Zl m p = Zl m q → p = q := by
  induction m with
  | zero =>
    intro p q h hp hq _
    apply List.ext_getElem h
    intro i h1 h2
    have a := hp _ (List.getElem_mem h1)
    have b := hq _ (List.getElem_mem h2)
    simp at a b; omega
  | succ m ih =>
    intro p q h hp hq e
    have e1 : Zl (m + 1) p / 2 ^ p.length = Zl (m + 1) q / 2 ^ p.length := by rw [e]
    have e2 : Zl (m + 1) p % 2 ^ p.length = Zl (m + 1) q % 2 ^ p.length := by rw [e]
    rw [Zl_div, h, Zl_div] at e1
    rw [Zl_mod, h, Zl_mod] at e2
    have sm : ∀ r : List Nat, small (m + 1) r → small m (shr 1 r) := by
      intro r hr c hc
      simp only [shr, List.mem_map] at hc
      obtain ⟨d, hd, rfl⟩ := hc
      have := hr d hd
      rw [Nat.pow_succ] at this
      exact Nat.div_lt_of_lt_mul (by simpa [Nat.mul_comm] using this)
    refine map_half_inj p q (ih _ _ (by simp [shr_length, h]) (sm p hp) (sm q hq) e1) (dig0_inj p q h e2)

theorem Z_inj {p q : List Nat} (h : p.length = q.length) (hp : small 64 p) (hq : small 64 q) : Z p = Z q ↔ p = q :=
  ⟨Zl_inj 64 p q h hp hq, fun e => e ▸ rfl⟩

theorem Z_div {p : List Nat} {n : Nat} (h : n ≤ 64) : Z p / (2 ^ p.length) ^ n = Zl (64 - n) (shr n p) := by
  have := Zl_div_pow n (64 - n) p
  rwa [Nat.sub_add_cancel h] at this

theorem small_shr {m n : Nat} {p : List Nat} (h : n ≤ m) (hp : small m p) : small (m - n) (shr n p) := by
  intro c hc
  simp only [shr, List.mem_map] at hc
  obtain ⟨d, hd, rfl⟩ := hc
  have := hp d hd
  refine Nat.div_lt_of_lt_mul ?_
  rw [← Nat.pow_add, Nat.add_sub_cancel' h]; exact this

/-- two points agree from level n on -/
theorem Z_above {p q : List Nat} {n : Nat} (h : p.length = q.length) (hn : n ≤ 64) (hp : small 64 p) (hq : small 64 q) :
    Z p / (2 ^ p.length) ^ n = Z q / (2 ^ p.length) ^ n ↔ shr n p = shr n q := by
  rw [Z_div hn, h, Z_div hn]
  exact ⟨Zl_inj _ _ _ (by simp [shr_length, h]) (small_shr hn hp) (small_shr hn hq), fun e => by rw [e]⟩

/-- the address at a level is the digit of the number -/
theorem Z_dig {p : List Nat} {n : Nat} (h : n < 64) : Z p / (2 ^ p.length) ^ n % 2 ^ p.length = dig n p := by
  rw [Z_div (by omega)]
  obtain ⟨m, hm⟩ : ∃ m, 64 - n = m + 1 := ⟨63 - n, by omega⟩
  rw [hm]
  have := Zl_mod m (shr n p)
  rwa [shr_length] at this

theorem Z_lt (p : List Nat) : Z p < (2 ^ p.length) ^ 64 := Zl_lt 64 p

theorem Z_succ {p : List Nat} {n : Nat} (h : n < 64) : Z p / (2 ^ p.length) ^ n = Z p / (2 ^ p.length) ^ (n + 1) * 2 ^ p.length + dig n p := by
  rw [← Z_dig h, Nat.pow_succ, ← Nat.div_div_eq_div_mul]
  have := Nat.div_add_mod (Z p / (2 ^ p.length) ^ n) (2 ^ p.length)
  rw [Nat.mul_comm] at this; omega

theorem dig0_snoc (p : List Nat) (c : Nat) : dig0 (p ++ [c]) = 2 * dig0 p + c % 2 := by
  induction p with
  | nil => simp [dig0]
  | cons d p ih =>
    simp only [List.cons_append, dig0, ih, List.length_append, List.length_cons, List.length_nil, Nat.pow_succ]
    rw [Nat.mul_add, ← Nat.mul_assoc]
    omega

theorem dig_snoc (n : Nat) (p : List Nat) (c : Nat) : dig n (p ++ [c]) = 2 * dig n p + c / 2 ^ n % 2 := by
  simp [dig, shr, dig0_snoc]

theorem take_snoc {α : Type} (p : List α) (j : Nat) (h : j < p.length) : p.take (j + 1) = p.take j ++ [p[j]] := by
  rw [List.take_succ_eq_append_getElem h]

theorem dig_le (n : Nat) (p : List Nat) (h : p.length ≤ 16) : dig n p < 65536 := by
  have := dig_lt n p
  have h2 : (2 : Nat) ^ p.length ≤ 2 ^ 16 := Nat.pow_le_pow_right (by decide) h
  omega

/-- the number of bits -/
def bl (x : Nat) : Nat := if x = 0 then 0 else Nat.log2 x + 1

theorem bl_lt {x n : Nat} : bl x ≤ n ↔ x < 2 ^ n := by
  unfold bl
  split
  · rename_i h; subst h; simp [Nat.two_pow_pos]
  · rename_i h
    rw [Nat.succ_le_iff, Nat.log2_lt h]

theorem bl_div {x k : Nat} (h : 2 ^ k ≤ x) : bl x = k + bl (x / 2 ^ k) := by
  have key : ∀ n, bl x ≤ n ↔ k + bl (x / 2 ^ k) ≤ n := by
    intro n
    rw [bl_lt]
    constructor
    · intro hx
      have hkn : k ≤ n := by
        rcases Nat.lt_or_ge n k with g | g
        · have : 2 ^ n < 2 ^ k := Nat.pow_lt_pow_right (by decide) g
          omega
        · exact g
      have : bl (x / 2 ^ k) ≤ n - k := by
        rw [bl_lt]
        refine Nat.div_lt_of_lt_mul ?_
        rw [← Nat.pow_add, Nat.add_sub_cancel' hkn]; exact hx
      omega
    · intro hx
      have : bl (x / 2 ^ k) ≤ n - k := by omega
      rw [bl_lt] at this
      have hkn : k ≤ n := by omega
      have h2 := (Nat.div_lt_iff_lt_mul (Nat.two_pow_pos k)).1 this
      rwa [← Nat.pow_add, Nat.sub_add_cancel hkn] at h2
  exact Nat.le_antisymm ((key _).2 (Nat.le_refl _)) ((key _).1 (Nat.le_refl _))

/-- the coordinates' differences, put together -/
def orx : List Nat → List Nat → Nat
  | c :: p, d :: q => (c ^^^ d) ||| orx p q
  | _, _ => 0

/-- on how many levels two points part at most: 0 where they are one -/
def top (p q : List Nat) : Nat := bl (orx p q)

theorem or_lt {a b n : Nat} : a ||| b < 2 ^ n ↔ a < 2 ^ n ∧ b < 2 ^ n := by
  constructor
  · intro h
    exact ⟨Nat.lt_of_le_of_lt Nat.left_le_or h, Nat.lt_of_le_of_lt Nat.right_le_or h⟩
  · intro ⟨h1, h2⟩
    exact Nat.or_lt_two_pow h1 h2

theorem xor_lt {a b n : Nat} : a ^^^ b < 2 ^ n ↔ a / 2 ^ n = b / 2 ^ n := by
  constructor
  · intro h
    have h1 : (a ^^^ b) >>> n = 0 := by rw [Nat.shiftRight_eq_div_pow]; exact Nat.div_eq_of_lt h
    rw [Nat.shiftRight_xor_distrib, Nat.shiftRight_eq_div_pow, Nat.shiftRight_eq_div_pow] at h1
    apply Nat.eq_of_testBit_eq
    intro i
    have h2 := congrArg (fun x => Nat.testBit x i) h1
    simp only [Nat.testBit_xor, Nat.zero_testBit] at h2
    cases ha : Nat.testBit (a / 2 ^ n) i <;> cases hb : Nat.testBit (b / 2 ^ n) i <;> simp_all
  · intro h
    have h1 : (a ^^^ b) >>> n = 0 := by
      rw [Nat.shiftRight_xor_distrib, Nat.shiftRight_eq_div_pow, Nat.shiftRight_eq_div_pow, h]
      simp
    rw [Nat.shiftRight_eq_div_pow] at h1
    exact (Nat.div_eq_zero_iff.1 h1).resolve_left (by have := Nat.two_pow_pos n; omega)

theorem orx_lt {n : Nat} : ∀ {p q : List Nat}, p.length = q.length → (orx p q < 2 ^ n ↔ shr n p = shr n q)
  | [], [], _ => by simp [orx, shr, Nat.two_pow_pos]
  | c :: p, d :: q, h => by
    simp only [List.length_cons, Nat.add_right_cancel_iff] at h
    simp only [orx, or_lt, xor_lt, orx_lt h, shr, List.map_cons, List.cons.injEq]
  | [], _ :: _, h => by simp at h
  | _ :: _, [], h => by simp at h

/-- two points agree from level n on -/
theorem top_le {p q : List Nat} (h : p.length = q.length) {n : Nat} : top p q ≤ n ↔ shr n p = shr n q := by
  unfold top
  rw [bl_lt, orx_lt h]

theorem orx_small {m : Nat} : ∀ {p q : List Nat}, small m p → small m q → orx p q < 2 ^ m
  | [], _, _, _ => by simp [orx, Nat.two_pow_pos]
  | _ :: _, [], _, _ => by simp [orx, Nat.two_pow_pos]
  | c :: p, d :: q, hp, hq => by
    simp only [orx]
    exact Nat.or_lt_two_pow (Nat.xor_lt_two_pow (hp c (by simp)) (hq d (by simp))) (orx_small (fun c h => hp c (by simp [h])) (fun c h => hq c (by simp [h])))

theorem top_le64 {p q : List Nat} (hp : small 64 p) (hq : small 64 q) : top p q ≤ 64 := bl_lt.2 (orx_small hp hq)

theorem orx_snoc : ∀ {p q : List Nat} (c d : Nat), p.length = q.length → orx (p ++ [c]) (q ++ [d]) = orx p q ||| (c ^^^ d)
  | [], [], c, d, _ => by simp [orx]
  | a :: p, b :: q, c, d, h => by
    simp only [List.length_cons, Nat.add_right_cancel_iff] at h
    simp only [List.cons_append, orx, orx_snoc c d h, Nat.or_assoc]
  | [], _ :: _, _, _, h => by simp at h
  | _ :: _, [], _, _, h => by simp at h

/-- by the numbers of the points -/
theorem top_Z {p q : List Nat} (h : p.length = q.length) {n : Nat} (hn : n ≤ 64) (hp : small 64 p) (hq : small 64 q) :
    top p q ≤ n ↔ Z p / (2 ^ p.length) ^ n = Z q / (2 ^ p.length) ^ n := by
  rw [top_le h, Z_above h hn hp hq]

theorem top_zero {p q : List Nat} (h : p.length = q.length) : top p q = 0 ↔ p = q := by
  rw [show top p q = 0 ↔ top p q ≤ 0 from by omega, top_le h, shr_zero, shr_zero]

end Go.Pan

namespace Go.Proofs.Ytlpndcfkjkbeoaa
open Go Go.Pan

def rightB (n : Nat) : Bool := Nat.ble 1 n && Nat.ble n 16
theorem rightB_t {n : Nat} (h1 : 1 ≤ n) (h2 : n ≤ 16) : rightB n = true := by simp [rightB, h1, h2]
theorem rightB_f {n : Nat} (h : ¬ (1 ≤ n ∧ n ≤ 16)) : rightB n = false := by
  cases hb : rightB n with
  | false => rfl
  | true => simp [rightB] at hb; omega
theorem rightB_iff {n : Nat} : rightB n = true ↔ 1 ≤ n ∧ n ≤ 16 := by simp [rightB]

theorem right_spec (a : Option Addr) (n cap : Nat) (w : World) : CallK Try.prog F_zbits_Right [.slice a n cap] (fun r w' => w = w' ∧ r = .bool (rightB n)) w := by
  refine e_zbits_Right rfl ?_
  refine ts (fun h1 => ?_) (fun h1 => ?_)
  · refine ts (fun h2 => ?_) (fun h2 => ?_)
    · exact ⟨rfl, by rw [rightB_t (by omega) (by omega)]; rfl⟩
    · exact ⟨rfl, by rw [rightB_f (by omega)]; rfl⟩
  · exact ⟨rfl, by rw [rightB_f (by omega)]; rfl⟩

def levB (n : Int) : Bool := decide (0 ≤ n ∧ n < 64)
theorem level_spec (n : Int) (w : World) : CallK Try.prog F_zbits_level [I n] (fun r w' => w = w' ∧ r = .bool (levB n)) w := by
  refine e_zbits_level rfl ?_
  refine ts (fun h1 => ?_) (fun h1 => ?_)
  · refine ts (fun h2 => ?_) (fun h2 => ?_)
    · exact ⟨rfl, by rw [show levB n = true from decide_eq_true (by omega)]; rfl⟩
    · exact ⟨rfl, by rw [show levB n = false from decide_eq_false (by omega)]; rfl⟩
  · exact ⟨rfl, by rw [show levB n = false from decide_eq_false (by omega)]; rfl⟩

theorem addr_spec {v : Value} {p : List Nat} {w : World} (s : Sl w.heap v p) (hp : 1 ≤ p.length ∧ p.length ≤ 16) {n : Nat} (hn : n < 64) :
    CallK Try.prog F_zbits_Addr [v, I n] (fun r w' => w = w' ∧ r = .tuple #[I (dig n p), I 0]) w := by
  cases s with
  | nil a cap => simp at hp
  | some b o cap _ hc hs =>
  refine e_zbits_Addr rfl ?_
  refine cl (right_spec _ _ _ _) ?_
  rintro _ _ ⟨rfl, rfl⟩
  rw [rightB_t hp.1 hp.2]
  refine cl (level_spec _ _) ?_
  rintro _ _ ⟨rfl, rfl⟩
  rw [show levB n = true from decide_eq_true (by omega)]
  refine lp (fun j : Nat => [(1, I n), (17, .slice (.some ⟨b, o, none⟩) p.length cap), (18, I p.length), (19, I j), (6, I (dig n (p.take j)))]) (fun j w' => w = w' ∧ j ≤ p.length) (fun j => p.length - j) 0 ⟨rfl, rfl, rfl, rfl, rfl, trivial⟩ ⟨rfl, by omega⟩ ?_
  rintro j e _ ⟨rfl, hj⟩
  refine ts (fun h1 => ?_) (fun h1 => ?_)
  · have hj' : j < p.length := by omega
    refine ix rfl hj' ?_
    have hcs : p[j] < 2 ^ 64 := hs _ (List.getElem_mem hj')
    have hd := dig_le n (p.take j) (by simp; omega)
    refine ld (v := U p[j]) (by rw [Nat.mul_one]; exact hc j p[j] (by simp)) ?_
    refine ⟨by decide, nm (v := ((dig n (p.take j) * 2 ^ 1 : Nat) : Int)) (shl_i64 (n := 1) (by omega) (by omega)) ?_⟩
    refine ⟨by omega, nm (shr_nat p[j] n 64 (by omega)) ?_⟩
    refine nm (and_u64 (b := 1) (Nat.lt_of_le_of_lt (Nat.div_le_self _ _) hcs) (by decide)) ?_
    have h2 : p[j] / 2 ^ n &&& 1 = p[j] / 2 ^ n % 2 := Nat.and_one_is_mod _
    have h3 : p[j] / 2 ^ n % 2 < 2 := Nat.mod_lt _ (by decide)
    refine nm (sml64 (by omega)) ?_
    refine nm (v := (dig n (p.take (j + 1)) : Int)) ?_ ?_
    · rw [or_i64 (by omega) (by omega), h2]
      congr 1
      rw [take_snoc p j hj', dig_snoc, Nat.mul_comm _ (2 ^ 1), ← Nat.two_pow_add_eq_or_of_lt (by omega)]
    refine nm (inc64 (by omega)) ?_
    exact ⟨j + 1, ⟨⟨rfl, rfl, rfl, rfl, rfl, trivial⟩, rfl, hj'⟩, by omega⟩
  · have hj' : j = p.length := by omega
    subst hj'
    refine ⟨rfl, ?_⟩
    rw [List.take_length]
    rfl

/-! ### math/bits.Len64 -/

def tab8 : List UInt8 := (List.range 256).map fun n => UInt8.ofNat (bl n)
theorem tab8_at {n : Nat} (h : n < 256) : tab8[n]? = some (UInt8.ofNat (bl n)) := by simp [tab8, h]

theorem bl_step {x k n : Nat} (h : x < 2 ^ n) (hk : 2 ^ k ≤ x) : bl x = k + bl (x / 2 ^ k) ∧ x / 2 ^ k < 2 ^ (n - k) ∧ k ≤ n := by
  refine ⟨bl_div hk, ?_, ?_⟩
  · have hkn : k ≤ n := by
      rcases Nat.lt_or_ge n k with g | g
      · have : 2 ^ n < 2 ^ k := Nat.pow_lt_pow_right (by decide) g
        omega
      · exact g
    refine Nat.div_lt_of_lt_mul ?_
    rw [← Nat.pow_add, Nat.add_sub_cancel' hkn]; exact h
  · rcases Nat.lt_or_ge n k with g | g
    · have : 2 ^ n < 2 ^ k := Nat.pow_lt_pow_right (by decide) g
      omega
    · exact g

set_option maxRecDepth 100000 in
set_option maxHeartbeats 2000000 in
theorem len64_spec {x : Nat} (hx : x < 2 ^ 64) (w : World) : CallK Try.prog F_math_bits_Len64 [U x] (fun r w' => w = w' ∧ r = I (bl x)) w := by
  -- the last part: a byte's length out of the table
  have last : ∀ (y n : Nat), y < 256 → n ≤ 56 → bl x = n + bl y → IntKind.i64.wrap ((n : Int) + ((UInt8.ofNat (bl y)).toNat : Int)) = (bl x : Int) := by
    intro y n hy hn hx
    have h8 : bl y ≤ 8 := bl_lt.2 (by omega)
    have : (UInt8.ofNat (bl y)).toNat = bl y := by simp; omega
    rw [this]
    exact wr64 (by omega) (by omega) (by omega)
  have fits : ∀ y : Nat, y < 256 → IntKind.u8.wrap (y : Int) = (y : Int) := by
    intro y hy
    simp only [IntKind.wrap, IntKind.bits, IntKind.signed, Bool.false_and, Bool.false_eq_true, if_false]
    omega
  have fits8 : ∀ y : Nat, y < 256 → IntKind.i64.wrap ((UInt8.ofNat (bl y)).toNat : Int) = ((UInt8.ofNat (bl y)).toNat : Int) := by
    intro y hy
    have : (UInt8.ofNat (bl y)).toNat < 256 := UInt8.toNat_lt _
    exact wr64 rfl (by omega) (by omega)
  have shr : ∀ (a k : Nat), k ≤ 64 → (a : Int).fdiv (2 ^ (min ((k : Int).toNat) IntKind.u64.bits)) = ((a / 2 ^ k : Nat) : Int) := fun a k hk => shr_nat a k 64 hk
  refine e_math_bits_Len64 rfl ?_
  refine ts (fun h1 => ?_) (fun h1 => ?_)
  · obtain ⟨e1, l1, -⟩ := bl_step hx (k := 32) (by omega)
    refine ⟨by decide, nm (shr x 32 (by omega)) ?_⟩
    refine ts (fun h2 => ?_) (fun h2 => ?_)
    · obtain ⟨e2, l2, -⟩ := bl_step l1 (k := 16) (by omega)
      refine ⟨by decide, nm (shr (x / 2 ^ 32) 16 (by omega)) ?_⟩
      refine nm (v := ((48 : Nat) : Int)) (wr64 rfl (by decide) (by decide)) ?_
      refine ts (fun h3 => ?_) (fun h3 => ?_)
      · obtain ⟨e3, l3, -⟩ := bl_step l2 (k := 8) (by omega)
        refine ⟨by decide, nm (shr (x / 2 ^ 32 / 2 ^ 16) 8 (by omega)) ?_⟩
        refine nm (v := ((56 : Nat) : Int)) (wr64 rfl (by decide) (by decide)) ?_
        refine nm (fits _ (by omega)) ?_
        refine ⟨by omega, _, tab8_at (n := x / 2 ^ 32 / 2 ^ 16 / 2 ^ 8) (by omega), nm rfl ?_⟩
        refine nm (fits8 _ (by omega)) ?_
        refine nm (last _ 56 (by omega) (by omega) (by omega)) ?_
        exact ⟨rfl, rfl⟩
      · refine nm (fits _ (by omega)) ?_
        refine ⟨by omega, _, tab8_at (n := x / 2 ^ 32 / 2 ^ 16) (by omega), nm rfl ?_⟩
        refine nm (fits8 _ (by omega)) ?_
        refine nm (last _ 48 (by omega) (by omega) (by omega)) ?_
        exact ⟨rfl, rfl⟩
    · refine ts (fun h3 => ?_) (fun h3 => ?_)
      · obtain ⟨e3, l3, -⟩ := bl_step l1 (k := 8) (by omega)
        refine ⟨by decide, nm (shr (x / 2 ^ 32) 8 (by omega)) ?_⟩
        refine nm (v := ((40 : Nat) : Int)) (wr64 rfl (by decide) (by decide)) ?_
        refine nm (fits _ (by omega)) ?_
        refine ⟨by omega, _, tab8_at (n := x / 2 ^ 32 / 2 ^ 8) (by omega), nm rfl ?_⟩
        refine nm (fits8 _ (by omega)) ?_
        refine nm (last _ 40 (by omega) (by omega) (by omega)) ?_
        exact ⟨rfl, rfl⟩
      · refine nm (fits _ (by omega)) ?_
        refine ⟨by omega, _, tab8_at (n := x / 2 ^ 32) (by omega), nm rfl ?_⟩
        refine nm (fits8 _ (by omega)) ?_
        refine nm (last _ 32 (by omega) (by omega) (by omega)) ?_
        exact ⟨rfl, rfl⟩
  · refine ts (fun h2 => ?_) (fun h2 => ?_)
    · obtain ⟨e2, l2, -⟩ := bl_step hx (k := 16) (by omega)
      refine ⟨by decide, nm (shr x 16 (by omega)) ?_⟩
      refine nm (v := ((16 : Nat) : Int)) (wr64 rfl (by decide) (by decide)) ?_
      refine ts (fun h3 => ?_) (fun h3 => ?_)
      · obtain ⟨e3, l3, -⟩ := bl_step l2 (k := 8) (by omega)
        refine ⟨by decide, nm (shr (x / 2 ^ 16) 8 (by omega)) ?_⟩
        refine nm (v := ((24 : Nat) : Int)) (wr64 rfl (by decide) (by decide)) ?_
        refine nm (fits _ (by omega)) ?_
        refine ⟨by omega, _, tab8_at (n := x / 2 ^ 16 / 2 ^ 8) (by omega), nm rfl ?_⟩
        refine nm (fits8 _ (by omega)) ?_
        refine nm (last _ 24 (by omega) (by omega) (by omega)) ?_
        exact ⟨rfl, rfl⟩
      · refine nm (fits _ (by omega)) ?_
        refine ⟨by omega, _, tab8_at (n := x / 2 ^ 16) (by omega), nm rfl ?_⟩
        refine nm (fits8 _ (by omega)) ?_
        refine nm (last _ 16 (by omega) (by omega) (by omega)) ?_
        exact ⟨rfl, rfl⟩
    · refine ts (fun h3 => ?_) (fun h3 => ?_)
      · obtain ⟨e3, l3, -⟩ := bl_step hx (k := 8) (by omega)
        refine ⟨by decide, nm (shr x 8 (by omega)) ?_⟩
        refine nm (v := ((8 : Nat) : Int)) (wr64 rfl (by decide) (by decide)) ?_
        refine nm (fits _ (by omega)) ?_
        refine ⟨by omega, _, tab8_at (n := x / 2 ^ 8) (by omega), nm rfl ?_⟩
        refine nm (fits8 _ (by omega)) ?_
        refine nm (last _ 8 (by omega) (by omega) (by omega)) ?_
        exact ⟨rfl, rfl⟩
      · refine nm (fits _ (by omega)) ?_
        refine ⟨by omega, _, tab8_at (n := x) (by omega), nm rfl ?_⟩
        refine nm (fits8 _ (by omega)) ?_
        refine nm (last _ 0 (by omega) (by omega) (by omega)) ?_
        exact ⟨rfl, rfl⟩

/-! ### Part, Cmp -/

theorem Sl.at' {h : Array Obj} {b o : Nat} {p : List Nat} (hc : ∀ j c, p[j]? = Option.some c → cel h ⟨b, o + j, none⟩ = Option.some (U c)) {j : Nat} (hj : j < p.length) : cel h ⟨b, o + j * 1, none⟩ = some (U p[j]) := by
  rw [Nat.mul_one]; exact hc j p[j] (by simp)

def partV (p q : List Nat) : Value := if 1 ≤ p.length ∧ p.length ≤ 16 ∧ p.length = q.length then .tuple #[I ((top p q : Int) - 1), I 0] else .tuple #[I 0, I 2]

theorem part_spec {v u : Value} {p q : List Nat} {w : World} (s : Sl w.heap v p) (t : Sl w.heap u q) :
    CallK Try.prog F_zbits_Part [v, u] (fun r w' => w = w' ∧ r = partV p q) w := by
  have hps := s.small
  have hqs := t.small
  have bad : ∀ (a : Option Addr) (cap : Nat) (a' : Option Addr) (cap' : Nat), ¬ (1 ≤ p.length ∧ p.length ≤ 16 ∧ p.length = q.length) →
      CallK Try.prog F_zbits_Part [.slice a p.length cap, .slice a' q.length cap'] (fun r w' => w = w' ∧ r = partV p q) w := by
    intro a cap a' cap' hn
    refine e_zbits_Part rfl ?_
    refine cl (right_spec _ _ _ _) ?_
    rintro _ _ ⟨rfl, rfl⟩
    by_cases hr : 1 ≤ p.length ∧ p.length ≤ 16
    · rw [rightB_t hr.1 hr.2]
      refine tsF (by omega) ?_
      exact ⟨rfl, by unfold partV; rw [if_neg hn]; rfl⟩
    · rw [rightB_f hr]
      exact ⟨rfl, by unfold partV; rw [if_neg hn]; rfl⟩
  by_cases hn : 1 ≤ p.length ∧ p.length ≤ 16 ∧ p.length = q.length
  case neg =>
    obtain ⟨a, cap, rfl⟩ := s.form
    obtain ⟨a', cap', rfl⟩ := t.form
    exact bad a cap a' cap' hn
  obtain ⟨h1, h2, h3⟩ := hn
  cases s with
  | nil a cap => simp at h1
  | some b o cap _ hc hs =>
  cases t with
  | nil a cap => simp only [List.length_nil] at h3; omega
  | some b' o' cap' _ hc' hs' =>
  refine e_zbits_Part rfl ?_
  refine cl (right_spec _ _ _ _) ?_
  rintro _ _ ⟨rfl, rfl⟩
  rw [rightB_t h1 h2]
  refine tsT (by omega) ?_
  refine lp (fun j : Nat => [(1, .slice (.some ⟨b', o', none⟩) q.length cap'), (19, .slice (.some ⟨b, o, none⟩) p.length cap), (20, I p.length), (21, I j), (6, U (orx (p.take j) (q.take j)))])
    (fun j w' => w = w' ∧ j ≤ p.length) (fun j => p.length - j) 0 ⟨rfl, rfl, rfl, rfl, rfl, trivial⟩ ⟨rfl, by omega⟩ ?_
  rintro j e _ ⟨rfl, hj⟩
  refine ts (fun g1 => ?_) (fun g1 => ?_)
  · have hj' : j < p.length := by omega
    have hj2 : j < q.length := by omega
    refine ix rfl hj' ?_
    refine ld (Sl.at' hc hj') ?_
    refine ix rfl hj2 ?_
    refine ld (Sl.at' hc' hj2) ?_
    refine nm (xor_u64 (hs _ (List.getElem_mem hj')) (hs' _ (List.getElem_mem hj2))) ?_
    have hx : p[j] ^^^ q[j] < 2 ^ 64 := Nat.xor_lt_two_pow (hs _ (List.getElem_mem hj')) (hs' _ (List.getElem_mem hj2))
    refine nm (v := (orx (p.take (j + 1)) (q.take (j + 1)) : Int)) ?_ ?_
    · rw [or_u64 (orx_small (fun c h => hs c (List.mem_of_mem_take h)) (fun c h => hs' c (List.mem_of_mem_take h))) hx, take_snoc p j hj', take_snoc q j hj2, orx_snoc _ _ (by simp; omega)]
    refine nm (inc64 (by omega)) ?_
    exact ⟨j + 1, ⟨⟨rfl, rfl, rfl, rfl, rfl, trivial⟩, rfl, hj'⟩, by omega⟩
  · have hj' : j = p.length := by omega
    subst hj'
    refine cl (len64_spec (orx_small (fun c h => hs c (List.mem_of_mem_take h)) (fun c h => hs' c (List.mem_of_mem_take h))) _) ?_
    rintro _ _ ⟨rfl, rfl⟩
    have ht : bl (orx (p.take p.length) (q.take p.length)) = top p q := by rw [List.take_length, h3, List.take_length]; rfl
    rw [ht]
    have := top_le64 hs hs'
    refine nm (v := (top p q : Int) - 1) (wr64 rfl (by omega) (by omega)) ?_
    exact ⟨rfl, by unfold partV; rw [if_pos ⟨h1, h2, h3⟩]; rfl⟩

def cmpZ (p q : List Nat) : Int := if Z p < Z q then -1 else if Z q < Z p then 1 else 0

/-- the first coordinate that differs above a level tells the order -/
theorem cmp_first {n : Nat} : ∀ {p q : List Nat}, p.length = q.length → shr (n + 1) p = shr (n + 1) q → ∀ (j : Nat) (hp : j < p.length) (hq : j < q.length), (∀ i, i < j → (p.drop 0)[i]?.map (· / 2 ^ n) = (q.drop 0)[i]?.map (· / 2 ^ n)) →
    p[j] / 2 ^ n ≠ q[j] / 2 ^ n → (p[j] < q[j] ↔ dig n p < dig n q) ∧ dig n p ≠ dig n q
  | [], _, _, _, j, hp, _, _, _ => by simp at hp
  | _ :: _, [], h, _, _, _, _, _, _ => by simp at h
  | c :: p, d :: q, h, hs, 0, _, _, _, hne => by
    simp only [List.length_cons, Nat.add_right_cancel_iff] at h
    simp only [shr, List.map_cons, List.cons.injEq] at hs
    simp only [List.getElem_cons_zero] at hne ⊢
    simp only [dig, shr, List.map_cons, dig0, List.length_map, h]
    have hb1 := dig0_lt (p.map (· / 2 ^ n))
    have hb2 := dig0_lt (q.map (· / 2 ^ n))
    rw [List.length_map, h] at hb1
    rw [List.length_map] at hb2
    have hc : c / 2 ^ n / 2 = d / 2 ^ n / 2 := by
      rw [Nat.div_div_eq_div_mul, Nat.div_div_eq_div_mul, ← Nat.pow_succ]; exact hs.1
    have hcm : c / 2 ^ n % 2 ≠ d / 2 ^ n % 2 := by omega
    have hlt : c < d ↔ c / 2 ^ n < d / 2 ^ n := by
      constructor
      · intro hcd
        have := Nat.div_le_div_right (c := 2 ^ n) (Nat.le_of_lt hcd)
        omega
      · intro hcd
        rcases Nat.lt_or_ge c d with g | g
        · exact g
        · have := Nat.div_le_div_right (c := 2 ^ n) g
          omega
    rw [hlt]
    have h2c : c / 2 ^ n % 2 < 2 := Nat.mod_lt _ (by decide)
    have h2d : d / 2 ^ n % 2 < 2 := Nat.mod_lt _ (by decide)
    rcases Nat.lt_or_ge (c / 2 ^ n % 2) 1 with g | g
    · have e1 : c / 2 ^ n % 2 = 0 := by omega
      have e2 : d / 2 ^ n % 2 = 1 := by omega
      rw [e1, e2]
      refine ⟨⟨fun _ => by omega, fun _ => by omega⟩, by omega⟩
    · have e1 : c / 2 ^ n % 2 = 1 := by omega
      have e2 : d / 2 ^ n % 2 = 0 := by omega
      rw [e1, e2]
      refine ⟨⟨fun _ => by omega, fun _ => by omega⟩, by omega⟩
  | c :: p, d :: q, h, hs, j + 1, hp, hq, hall, hne => by
    simp only [List.length_cons, Nat.add_right_cancel_iff] at h
    simp only [shr, List.map_cons, List.cons.injEq] at hs
    simp only [List.length_cons, Nat.add_lt_add_iff_right] at hp hq
    have h0 := hall 0 (by omega)
    simp at h0
    have ih := cmp_first (n := n) (p := p) (q := q) h hs.2 j hp hq (fun i hi => by have := hall (i + 1) (by omega); simpa using this) (by simpa using hne)
    simp only [List.getElem_cons_succ, dig, shr, List.map_cons, dig0, List.length_map, h, h0]
    simp only [dig, shr] at ih
    exact ⟨⟨fun g => by have := ih.1.1 g; omega, fun g => ih.1.2 (by omega)⟩, by have := ih.2; omega⟩

/-- by the addresses at the level at which they part -/
theorem cmpZ_dig {p q : List Nat} (h : p.length = q.length) (hp : small 64 p) (hq : small 64 q) {n : Nat} (hn : top p q = n + 1) :
    (Z p < Z q ↔ dig n p < dig n q) ∧ Z p ≠ Z q ∧ dig n p ≠ dig n q := by
  have hn64 : n < 64 := by have := top_le64 hp hq; omega
  have e1 : Z p / (2 ^ p.length) ^ (n + 1) = Z q / (2 ^ p.length) ^ (n + 1) := (top_Z h (by omega) hp hq).1 (by omega)
  have e2 : Z p / (2 ^ p.length) ^ n ≠ Z q / (2 ^ p.length) ^ n := fun e => by have := (top_Z h (by omega) hp hq).2 e; omega
  have d1 := Z_succ (p := p) hn64
  have d2 := Z_succ (p := q) hn64
  rw [← h, ← e1] at d2
  have hB : 0 < (2 ^ p.length) ^ n := Nat.pow_pos (Nat.two_pow_pos _)
  refine ⟨?_, fun e => e2 (by rw [e]), fun e => e2 (by rw [d1, d2, e])⟩
  constructor
  · intro hlt
    have := Nat.div_le_div_right (c := (2 ^ p.length) ^ n) (Nat.le_of_lt hlt)
    omega
  · intro hlt
    rcases Nat.lt_or_ge (Z p) (Z q) with g | g
    · exact g
    · have := Nat.div_le_div_right (c := (2 ^ p.length) ^ n) g
      omega

def cmpV (p q : List Nat) : Value := if 1 ≤ p.length ∧ p.length ≤ 16 ∧ p.length = q.length then .tuple #[I (cmpZ p q), I 0] else .tuple #[I 0, I 2]

theorem cmp_spec {v u : Value} {p q : List Nat} {w : World} (s : Sl w.heap v p) (t : Sl w.heap u q) :
    CallK Try.prog F_zbits_Cmp [v, u] (fun r w' => w = w' ∧ r = cmpV p q) w := by
  refine e_zbits_Cmp rfl ?_
  refine cl (part_spec s t) ?_
  rintro _ _ ⟨rfl, rfl⟩
  by_cases hn : 1 ≤ p.length ∧ p.length ≤ 16 ∧ p.length = q.length
  case neg =>
    rw [show partV p q = .tuple #[I 0, I 2] from if_neg hn]
    refine tsF (by decide) ?_
    exact ⟨rfl, by unfold cmpV; rw [if_neg hn]; rfl⟩
  obtain ⟨h1, h2, h3⟩ := hn
  rw [show partV p q = .tuple #[I ((top p q : Int) - 1), I 0] from if_pos ⟨h1, h2, h3⟩]
  refine tsT rfl ?_
  refine ts (fun g => ?_) (fun g => ?_)
  · have h0 : top p q = 0 := by omega
    have hpq := (top_zero h3).1 h0
    subst hpq
    exact ⟨rfl, by unfold cmpV cmpZ; rw [if_pos ⟨h1, h2, h3⟩, if_neg (by omega), if_neg (by omega)]; rfl⟩
  · cases s with
    | nil a cap => simp at h1
    | some b o cap _ hc hs =>
    cases t with
    | nil a cap => simp only [List.length_nil] at h3; omega
    | some b' o' cap' _ hc' hs' =>
    obtain ⟨n, hn⟩ : ∃ n, top p q = n + 1 := ⟨top p q - 1, by omega⟩
    have h64 := top_le64 hs hs'
    rw [show ((top p q : Int) - 1) = (n : Int) from by omega]
    have hz := cmpZ_dig h3 hs hs' hn
    have hsh := (top_le h3 (n := n + 1)).1 (by omega)
    refine lp (fun j : Nat => [(1, .slice (.some ⟨b', o', none⟩) q.length cap'), (6, I n), (23, .slice (.some ⟨b, o, none⟩) p.length cap), (24, I p.length), (25, I j)])
      (fun j w' => w = w' ∧ j ≤ p.length ∧ ∀ i, i < j → p[i]?.map (· / 2 ^ n) = q[i]?.map (· / 2 ^ n)) (fun j => p.length - j) 0 ⟨rfl, rfl, rfl, rfl, rfl, trivial⟩ ⟨rfl, by omega, fun i hi => by omega⟩ ?_
    rintro j e _ ⟨rfl, hj, hall⟩
    refine ts (fun g1 => ?_) (fun g1 => ?_)
    · have hj' : j < p.length := by omega
      have hj2 : j < q.length := by omega
      refine ix rfl hj' ?_
      refine ld (Sl.at' hc hj') ?_
      refine ix rfl hj2 ?_
      refine ld (Sl.at' hc' hj2) ?_
      refine nm (xor_u64 (hs _ (List.getElem_mem hj')) (hs' _ (List.getElem_mem hj2))) ?_
      have hx : p[j] ^^^ q[j] < 2 ^ 64 := Nat.xor_lt_two_pow (hs _ (List.getElem_mem hj')) (hs' _ (List.getElem_mem hj2))
      refine ⟨by omega, nm (shr_nat (p[j] ^^^ q[j]) n 64 (by omega)) ?_⟩
      have hdiv : (p[j] ^^^ q[j]) / 2 ^ n = 0 ↔ p[j] / 2 ^ n = q[j] / 2 ^ n := by
        rw [← xor_lt, Nat.div_eq_zero_iff]
        have := Nat.two_pow_pos n
        omega
      refine ts (fun g2 => ?_) (fun g2 => ?_)
      · refine nm (inc64 (by omega)) ?_
        refine ⟨j + 1, ⟨⟨rfl, rfl, rfl, rfl, rfl, trivial⟩, rfl, hj', fun i hi => ?_⟩, by omega⟩
        rcases Nat.lt_or_ge i j with g3 | g3
        · exact hall i g3
        · have : i = j := by omega
          subst this
          simp only [List.getElem?_eq_getElem hj', List.getElem?_eq_getElem hj2, Option.map_some, Option.some.injEq]
          exact hdiv.1 (by omega)
      · have hf := cmp_first (n := n) h3 hsh j hj' hj2 (by simpa using hall) (fun e => g2 (by have := hdiv.2 e; omega))
        refine ix rfl hj2 ?_
        refine ld (Sl.at' hc' hj2) ?_
        refine ts (fun g3 => ?_) (fun g3 => ?_)
        · have : Z p < Z q := hz.1.2 (hf.1.1 (by omega))
          exact ⟨rfl, by unfold cmpV cmpZ; rw [if_pos ⟨h1, h2, h3⟩, if_pos this]; rfl⟩
        · have g4 : ¬ Z p < Z q := fun g4 => g3 (by have := hf.1.2 (hz.1.1 g4); omega)
          have g5 : Z q < Z p := by have := hz.2.1; omega
          exact ⟨rfl, by unfold cmpV cmpZ; rw [if_pos ⟨h1, h2, h3⟩, if_neg g4, if_pos g5]; rfl⟩
    · exfalso
      have : shr n p = shr n q := by
        apply List.ext_getElem?
        intro i
        simp only [shr, List.getElem?_map]
        rcases Nat.lt_or_ge i j with g3 | g3
        · exact hall i g3
        · rw [List.getElem?_eq_none (by omega), List.getElem?_eq_none (by omega)]
      have := (top_le h3).2 this
      omega

/-! ### Clone -/

theorem clone_spec {v : Value} {p : List Nat} {w : World} (s : Sl w.heap v p) (hl : p.length ≤ 1000000) :
    CallK Try.prog F_slices_Clone_sl_uint64_uint64 [v] (fun r w' => Ext w w' ∧ Sl w'.heap r p ∧ (p ≠ [] → ∃ b cap rest, r = .slice (some ⟨b, 0, none⟩) p.length cap ∧ w.heap.size ≤ b ∧ w'.heap[b]? = some (.cells (p.map U ++ rest).toArray T_u64 (0, 0)))) w := by
  have hps := s.small
  have main : ∀ (a : Addr) (cap : Nat), celsAt w.heap a (p.map U) → CallK Try.prog F_slices_Clone_sl_uint64_uint64 [.slice (some a) p.length cap] (fun r w' => Ext w w' ∧ Sl w'.heap r p ∧ (p ≠ [] → ∃ b cap rest, r = .slice (some ⟨b, 0, none⟩) p.length cap ∧ w.heap.size ≤ b ∧ w'.heap[b]? = some (.cells (p.map U ++ rest).toArray T_u64 (0, 0)))) w := by
    intro a cap hc
    refine e_slices_Clone_sl_uint64_uint64 rfl ?_
    refine ⟨rfl, rfl, by decide, al ?_⟩
    intro b w1 hb hx hsz hblk
    have hown := own_new (base := w.heap.size) (e := T_u64) (size := 1) (by omega) hblk
    refine app tt_ok rfl rfl rfl rfl (by decide) rfl rfl hown rfl (news := p.map U) (by simp) (hx.1.cels hc) (by simp [flat]) (by omega) (by decide) (by omega) ?_
    intro v' w2 ho hg hn
    have hx2 : Ext w w2 := hx.grown hg (own_row hown)
    have hne : v' ≠ .slice none 0 0 := fun e => by have := (hn.1 e).1; cases this
    obtain ⟨g, cp, rest, rfl, hge, hblk2⟩ := own_blk ho hne
    simp only [List.nil_append] at hblk2
    have e0 : 0 + p.length = p.length := Nat.zero_add _
    refine ⟨hx2, (?_ : Sl w2.heap (.slice (some ⟨g, 0, none⟩) (0 + p.length) cp) p), fun _ => ⟨g, cp, rest, (by rw [e0] : Value.slice (some ⟨g, 0, none⟩) (0 + p.length) cp = .slice (some ⟨g, 0, none⟩) p.length cp), hge, hblk2⟩⟩
    have hcells : ∀ j c, p[j]? = some c → cel w2.heap ⟨g, 0 + j, none⟩ = some (U c) := fun j c hj => by
      refine cel_blk hblk2 ?_
      rw [Nat.zero_add, List.getElem?_append_left (by simp; exact (List.getElem?_eq_some_iff.1 hj).1)]
      simp [hj]
    rw [e0]
    exact Sl.some (h := w2.heap) g 0 cp p hcells hps
  cases s with
  | nil a cap =>
    cases a with
    | none =>
      refine e_slices_Clone_sl_uint64_uint64 rfl ?_
      exact ⟨Ext.refl _, .nil _ _, fun h => absurd rfl h⟩
    | some a => exact main a cap (fun j v hj => by simp at hj)
  | some b o cap _ hc hs => exact main _ cap (celsAt_cells fun j v hj => by simp only [List.getElem?_map, Option.map_eq_some_iff] at hj; obtain ⟨c, hj, rfl⟩ := hj; exact hc j c hj)

end Go.Proofs.Ytlpndcfkjkbeoaa

namespace Go.Proofs.Ytlpndcfkjkbeoaa
open Go Go.Pan

/-! ### above, Cut -/

def cutN (n : Nat) (p : List Nat) : List Nat := p.map fun c => c / 2 ^ n * 2 ^ n

theorem and_above {c n : Nat} (hc : c < 2 ^ 64) (hn : n ≤ 64) : c &&& (2 ^ 64 - 2 ^ n) = c / 2 ^ n * 2 ^ n := by
  have e : 2 ^ 64 - 2 ^ n = 2 ^ n * (2 ^ (64 - n) - 1) := by
    rw [Nat.mul_sub, ← Nat.pow_add, Nat.add_sub_cancel' hn, Nat.mul_one]
  rw [e, Nat.mul_comm (c / 2 ^ n)]
  apply Nat.eq_of_testBit_eq
  intro i
  rw [Nat.testBit_and, Nat.testBit_two_pow_mul, Nat.testBit_two_pow_mul, Nat.testBit_two_pow_sub_one]
  by_cases h : n ≤ i
  · simp only [h, decide_true, Bool.true_and]
    rw [← Nat.shiftRight_eq_div_pow, Nat.testBit_shiftRight, Nat.add_sub_cancel' h]
    by_cases h2 : i < 64
    · rw [show decide (i - n < 64 - n) = true from decide_eq_true (by omega), Bool.and_true]
    · rw [Nat.testBit_lt_two_pow (Nat.lt_of_lt_of_le hc (Nat.pow_le_pow_right (by decide) (by omega)))]
      simp
  · simp [h]

theorem above_spec {at_ : Int} {n : Nat} (h : at_ + 1 = n) (hn : n ≤ 64) (w : World) : CallK Try.prog F_zbits_above [I at_] (fun r w' => w = w' ∧ r = U (2 ^ 64 - 2 ^ n)) w := by
  refine e_zbits_above rfl ?_
  refine ts (fun g => ?_) (fun g => ?_)
  · have : n = 64 := by omega
    subst this
    exact ⟨rfl, rfl⟩
  · refine nm (v := (n : Int)) (wr64 h (by omega) (by omega)) ?_
    refine ⟨by omega, nm (v := ((2 ^ 64 - 2 ^ n : Nat) : Int)) ?_ ?_⟩
    · have := shl_u64 (a := 18446744073709551615) (n := n) (by omega)
      rw [show ((18446744073709551615 : Nat) : Int) = 18446744073709551615 from rfl] at this
      rw [this]
      congr 1
      have hle : 2 ^ n ≤ 2 ^ 64 := Nat.pow_le_pow_right (by decide) hn
      have hpos := Nat.two_pow_pos n
      have e1 : 18446744073709551615 * 2 ^ n = (2 ^ n - 1) * 2 ^ 64 + (2 ^ 64 - 2 ^ n) := by
        generalize 2 ^ n = x at *
        have : (x - 1) * 2 ^ 64 = x * 2 ^ 64 - 2 ^ 64 := by rw [Nat.sub_mul, Nat.one_mul]
        omega
      rw [e1, Nat.mul_add_mod_self_right, Nat.mod_eq_of_lt (by omega)]
    · exact ⟨rfl, rfl⟩

/-- a slice that the call has made: its block holds the numbers and some spare -/
structure Fresh (w0 w : World) (r : Value) (p : List Nat) : Prop where
  sl : Sl w.heap r p
  own : ∃ b cap rest, r = .slice (some ⟨b, 0, none⟩) p.length cap ∧ w0.heap.size ≤ b ∧ w.heap[b]? = some (.cells (p.map U ++ rest).toArray T_u64 (0, 0))

theorem Sl.ofBlk {h : Array Obj} {b cap : Nat} {p : List Nat} {rest : List Value} {t : TypeId} {fz : Nat × Nat} (hb : h[b]? = some (.cells (p.map U ++ rest).toArray t fz)) (hp : ∀ c ∈ p, c < 2 ^ 64) : Sl h (.slice (some ⟨b, 0, none⟩) p.length cap) p := by
  refine .some b 0 cap p (fun j c hj => ?_) hp
  refine cel_blk hb ?_
  rw [Nat.zero_add, List.getElem?_append_left (by simp; exact (List.getElem?_eq_some_iff.1 hj).1)]
  simp [hj]

theorem cutN_small {n : Nat} {p : List Nat} (hp : ∀ c ∈ p, c < 2 ^ 64) : ∀ c ∈ cutN n p, c < 2 ^ 64 := by
  intro c hc
  simp only [cutN, List.mem_map] at hc
  obtain ⟨d, hd, rfl⟩ := hc
  have := Nat.div_mul_le_self d (2 ^ n)
  have := hp d hd
  omega

theorem cut_spec {v : Value} {p : List Nat} {w : World} (s : Sl w.heap v p) (hp : 1 ≤ p.length ∧ p.length ≤ 16) {at_ : Int} {n : Nat} (h : at_ + 1 = n) (hn : n ≤ 64) :
    CallK Try.prog F_zbits_Cut [v, I at_] (fun r w' => ∃ u, r = .tuple #[u, I 0] ∧ Ext w w' ∧ Fresh w w' u (cutN n p)) w := by
  have hps := s.small
  obtain ⟨a, cap, rfl⟩ := s.form
  refine e_zbits_Cut rfl ?_
  refine cl (right_spec _ _ _ _) ?_
  rintro _ _ ⟨rfl, rfl⟩
  rw [rightB_t hp.1 hp.2]
  have hne : p ≠ [] := fun e => by rw [e] at hp; simp at hp
  refine ts (fun g => ?_) (fun g => ?_)
  rotate_left
  refine cl (level_spec _ _) ?_
  rintro _ _ ⟨rfl, rfl⟩
  rw [show levB at_ = true from decide_eq_true (by omega)]
  all_goals
    refine cl (clone_spec s (by omega)) ?_
    rintro r w1 ⟨hx, hs1, hown⟩
    obtain ⟨b, cp, rest, rfl, hb, hblk⟩ := hown hne
    have hcl : (cutN n p).length = p.length := by simp [cutN]
    refine lp (fun j : Nat => [(1, I at_), (6, .slice (.some ⟨b, 0, none⟩) p.length cp), (22, .slice (.some ⟨b, 0, none⟩) p.length cp), (23, I p.length), (24, I j)])
      (fun j w' => j ≤ p.length ∧ Ext w w' ∧ w'.heap[b]? = some (.cells (mixRow U (cutN n p) p rest j).toArray T_u64 (0, 0))) (fun j => p.length - j) 0 ⟨rfl, rfl, rfl, rfl, rfl, trivial⟩ ⟨by omega, hx, by rw [mixRow_zero]; exact hblk⟩ ?_
    rintro j e w2 ⟨hj, hx2, hb2⟩
    refine ts (fun g1 => ?_) (fun g1 => ?_)
    · have hj' : j < p.length := by omega
      have hpj := hps _ (List.getElem_mem hj')
      have e0 : 0 + j * 1 = j := by omega
      have hlen := mixRow_len (f := U) (R := rest) hcl hj
      refine ix rfl hj' ?_
      refine ldB hb2 (by rw [e0]; exact mixRow_get hcl hj') ?_
      refine cl (above_spec h hn _) ?_
      rintro _ _ ⟨rfl, rfl⟩
      refine ⟨Ext.refl _, ?_⟩
      refine nm (and_u64 hpj (by have := Nat.two_pow_pos n; omega)) ?_
      refine ix rfl hj' ?_
      refine st hb2 rfl (Nat.ble_eq_true_of_le (show 0 + j * 1 + 1 ≤ _ by omega)) rfl ?_
      intro w3 u3
      have hb3 : w3.heap[b]? = some (.cells (setL (mixRow U (cutN n p) p rest j) (0 + j * 1) [U (p[j] &&& (2 ^ 64 - 2 ^ n))]).toArray T_u64 (0, 0)) := u3.new
      have hv : p[j] &&& (2 ^ 64 - 2 ^ n) = (cutN n p)[j]'(by omega) := by rw [and_above hpj hn]; simp [cutN]
      rw [e0, hv, mixRow_set hcl hj'] at hb3
      refine nm (inc64 (by omega)) ?_
      exact ⟨j + 1, ⟨⟨rfl, rfl, rfl, rfl, rfl, trivial⟩, hj', hx2.upd (by omega) u3, hb3⟩, by omega⟩
    · have hj' : j = p.length := by omega
      subst hj'
      rw [mixRow_end hcl] at hb2
      refine ⟨_, rfl, hx2, ?_, b, cp, rest, ?_, hb, hb2⟩
      · have := Sl.ofBlk (cap := cp) hb2 (cutN_small hps)
        rw [hcl] at this
        exact this
      · rw [hcl]; rfl

end Go.Proofs.Ytlpndcfkjkbeoaa

namespace Go.Pan
open Go

/-! ## Slices of anything, by their cells -/

abbrev ptr (b : Nat) : Value := .pointer (some ⟨b, 0, none⟩)
abbrev nilp : Value := .pointer none
/-- a pointer, or nil -/
def ptrO : Option Nat → Value
  | some b => ptr b
  | none => nilp
theorem ptrO_flat (o : Option Nat) : flat (ptrO o) = true := by cases o <;> rfl

/-- the slice value v has n elements; all its cells, in a row, are cs -/
inductive Rw (h : Array Obj) : Value → Nat → List Value → Prop where
  | nil (a : Option Addr) (cap : Nat) : Rw h (.slice a 0 cap) 0 []
  | some (b o cap n : Nat) (cs : List Value) (hc : celsAt h ⟨b, o, none⟩ cs) : Rw h (.slice (Option.some ⟨b, o, none⟩) n cap) n cs

theorem Rw.ext {h h' : Array Obj} (x : HExt h h') {v : Value} {n : Nat} {cs : List Value} (s : Rw h v n cs) : Rw h' v n cs := by
  cases s with
  | nil a cap => exact .nil a cap
  | some b o cap _ _ hc => exact .some b o cap n cs (x.cels hc)

theorem Rw.form {h : Array Obj} {v : Value} {n : Nat} {cs : List Value} (s : Rw h v n cs) : ∃ a cap, v = .slice a n cap := by
  cases s with
  | nil => exact ⟨_, _, rfl⟩
  | some b o cap _ _ hc => exact ⟨_, _, rfl⟩

theorem Rw.place {h : Array Obj} {a : Option Addr} {n cap : Nat} {cs : List Value} (s : Rw h (.slice a n cap) n cs) (hn : 0 < n) : ∃ b o, a = Option.some ⟨b, o, none⟩ ∧ celsAt h ⟨b, o, none⟩ cs := by
  cases s with
  | nil => omega
  | some b o _ _ _ hc => exact ⟨b, o, rfl, hc⟩

theorem celsAt.get {h : Array Obj} {b o : Nat} {cs : List Value} (hc : celsAt h ⟨b, o, none⟩ cs) {j : Nat} {v : Value} (hj : cs[j]? = some v) : cel h ⟨b, o + j, none⟩ = some v := by
  have := hc j v hj
  rwa [add_off] at this

theorem celsAt.sub {h : Array Obj} {b o : Nat} {cs : List Value} (hc : celsAt h ⟨b, o, none⟩ cs) {j m : Nat} {cs1 : List Value} (hs : (cs.drop j).take m = cs1) : celsAt h ⟨b, o + j, none⟩ cs1 := by
  refine celsAt_cells fun i v hi => ?_
  rw [Nat.add_assoc]
  refine hc.get ?_
  rw [← hs, List.getElem?_take] at hi
  split at hi
  · rwa [List.getElem?_drop] at hi
  · cases hi

theorem Rw.ofBlk {h : Array Obj} {b n cap : Nat} {cs rest : List Value} {t : TypeId} {fz : Nat × Nat} (hb : h[b]? = Option.some (.cells (cs ++ rest).toArray t fz)) : Rw h (.slice (Option.some ⟨b, 0, none⟩) n cap) n cs :=
  .some b 0 cap n cs (celsAt_blk hb (by rw [List.drop_zero, List.take_left']; rfl))

theorem Rw.ofBlk' {h : Array Obj} {b n cap : Nat} {cs : List Value} {t : TypeId} {fz : Nat × Nat} (hb : h[b]? = Option.some (.cells cs.toArray t fz)) : Rw h (.slice (Option.some ⟨b, 0, none⟩) n cap) n cs :=
  .some b 0 cap n cs (celsAt_blk hb (by rw [List.drop_zero, List.take_length]))

/-- a store among the first of the cells -/
theorem setL_left {l r cs : List Value} {o : Nat} (h : o + cs.length ≤ l.length) : setL (l ++ r) o cs = setL l o cs ++ r := by
  unfold setL
  rw [List.take_append_of_le_length (by omega), List.drop_append_of_le_length (by omega)]
  simp

theorem setL_right {A B cs : List Value} {i : Nat} : setL (A ++ B) (A.length + i) cs = A ++ setL B i cs := by
  unfold setL
  rw [List.take_append, List.take_of_length_le (by omega), Nat.add_sub_cancel_left, Nat.add_assoc, List.drop_append, List.drop_eq_nil_of_le (by omega), Nat.add_sub_cancel_left]
  simp

theorem Rw.take {h : Array Obj} {a : Addr} {n m cap : Nat} {xs ys : List Value} (s : Rw h (.slice (Option.some a) n cap) n (xs ++ ys)) : Rw h (.slice (Option.some a) m cap) m xs ∨ n = 0 := by
  generalize hcs : xs ++ ys = cs at s
  cases s with
  | nil => exact .inr rfl
  | some b o _ _ _ hc => exact .inl (.some b o cap m xs (celsAt_cells fun j v hj => hc.get (by rw [← hcs, List.getElem?_append_left (List.getElem?_eq_some_iff.1 hj).1]; exact hj)))

/-! ### rows of elements of one size -/

section
variable {α : Type} {f : α → List Value} {m : Nat} (hf : ∀ x, (f x).length = m)
include hf

theorem flat_len (l : List α) : (l.flatMap f).length = l.length * m := by
  induction l with
  | nil => simp
  | cons x l ih => rw [List.flatMap_cons, List.length_append, ih, hf, List.length_cons, Nat.succ_mul]; omega

theorem flat_drop (l : List α) (j : Nat) : (l.flatMap f).drop (j * m) = (l.drop j).flatMap f := by
  induction l generalizing j with
  | nil => simp
  | cons x l ih =>
    cases j with
    | zero => simp
    | succ j =>
      rw [List.flatMap_cons, List.drop_append, hf, List.drop_eq_nil_of_le (by rw [hf, Nat.succ_mul]; omega), List.nil_append, List.drop_succ_cons, ← ih]
      congr 1
      rw [Nat.succ_mul]; omega

theorem flat_take (l : List α) (j : Nat) : (l.flatMap f).take (j * m) = (l.take j).flatMap f := by
  induction l generalizing j with
  | nil => simp
  | cons x l ih =>
    cases j with
    | zero => simp
    | succ j =>
      rw [List.flatMap_cons, List.take_append, hf, List.take_of_length_le (by rw [hf, Nat.succ_mul]; omega), List.take_succ_cons, List.flatMap_cons, ← ih]
      congr 2
      rw [Nat.succ_mul]; omega

theorem flat_elem (l : List α) (j : Nat) (hj : j < l.length) : ((l.flatMap f).drop (j * m)).take m = f l[j] := by
  rw [flat_drop hf, List.drop_eq_getElem_cons hj, List.flatMap_cons, List.take_append, hf, Nat.sub_self, List.take_zero, List.append_nil, List.take_of_length_le (by rw [hf]; omega)]

theorem flat_get (l : List α) (j i : Nat) (hj : j < l.length) (hi : i < m) : (l.flatMap f)[j * m + i]? = (f l[j])[i]? := by
  rw [← flat_elem hf l j hj, List.getElem?_take, if_pos hi, List.getElem?_drop]

theorem flat_set (l : List α) (j : Nat) (hj : j < l.length) (x : α) : setL (l.flatMap f) (j * m) (f x) = (l.set j x).flatMap f := by
  unfold setL
  rw [hf, flat_take hf, show j * m + m = (j + 1) * m from by rw [Nat.succ_mul], flat_drop hf]
  rw [List.set_eq_take_append_cons_drop, if_pos hj]
  simp

/-- a store into a part of an element -/
theorem flat_set_part (l : List α) (j : Nat) (hj : j < l.length) (i : Nat) (cs : List Value) (x : α) (hi : i + cs.length ≤ m) (hx : setL (f l[j]) i cs = f x) : setL (l.flatMap f) (j * m + i) cs = (l.set j x).flatMap f := by
  have hsp : l.flatMap f = (l.take j).flatMap f ++ (f l[j] ++ (l.drop (j + 1)).flatMap f) := by
    rw [← List.flatMap_cons, ← List.drop_eq_getElem_cons hj, ← List.flatMap_append, List.take_append_drop]
  have hA : ((l.take j).flatMap f).length = j * m := by rw [flat_len hf, List.length_take, Nat.min_eq_left (by omega)]
  rw [hsp, ← hA, setL_right, setL_left (by rw [hf]; exact hi), hx, List.set_eq_take_append_cons_drop, if_pos hj]
  simp
end

/-- a whole struct is read -/
theorem ldC {h : Array Obj} {n : Nat} {a : Addr} {cs : List Value} {K : List Value → Prop} (hc : celsAt h a cs) (hl : cs.length = n) (hk : K cs) :
    ∃ cs : List Value, cs.length = n ∧ celsAt h a cs ∧ K cs := ⟨cs, hl, hc, hk⟩

/-! ### a scope that is jumped back into -/

section
variable {P : Program} {tt : Nat → Option TI}

theorem jl {n : Nat} {sc : Nat → Sc} {pre rest0 rest : Code} {K : Ks} {e : Env} {w : World} (htt : ∀ t i, tt t = some i → tiOf P t = some i) (hmix : P.follows .mixedOrders = true)
    (l : Nat) (hf : findLabel (.seq pre (.seq (.label l) rest0)) l = some rest) (hp : chk n sc pre = true) (hc : chk n sc (.seq (.label l) rest0) = true) (hr : chk n sc rest = true)
    (hd : ∀ K e w, den P tt n sc rest K e w → den P tt n sc (.seq (.label l) rest0) K e w) {σ : Type} (L : σ → List (Nat × Value)) (J : σ → World → Prop) (μ : σ → Nat)
    (first : den P tt n sc pre { nrm := fun e' w' => ∃ s, Has e' (L s) ∧ J s w', ext := K.ext, gto := fun _ _ _ => False, ret := K.ret } e w)
    (pass : ∀ s e w, J s w → den P tt n sc rest { K with gto := fun l' e' w' => l' = l ∧ ∃ s', (Has e' (L s') ∧ J s' w') ∧ μ s' < μ s } (upds e (L s)) w) : SemK P n (.scope (.seq pre (.seq (.label l) rest0))) K e w := by
  have pass' : ∀ s e w, (Has e (L s) ∧ J s w) → den P tt n sc rest { K with gto := fun l' e' w' => l' = l ∧ ∃ s', (Has e' (L s') ∧ J s' w') ∧ μ s' < μ s } e w := fun s e w ⟨h1, h2⟩ => by
    have := pass s e w h2
    rw [h1.upds] at this
    exact this
  refine ⟨fun a r => ?_⟩
  let G : σ → Act × World → Prop := fun s x => ∃ e, Rep n x.1 e ∧ Has e (L s) ∧ J s x.2
  refine wp_scope_jumps l (fun a w => ∃ s, G s (a, w)) (fun a w => ghost G μ (a, w)) hf ?_ ?_
  · refine wp_seq (wp_mono (den_sound htt hmix pre _ e w a r hp first) ?_)
    intro ex a' w' hq
    cases ex with
    | normal =>
      obtain ⟨e', r', s, h1⟩ := hq
      refine wp_mono (den_sound htt hmix (.seq (.label l) rest0) _ e' w' a' r' hc (hd _ _ _ (pass' s e' w' h1))) ?_
      intro ex a2 w2 hq
      cases ex with
      | goto l' => obtain ⟨e2, r2, h2, s', h3, h4⟩ := hq; exact ⟨h2, s', e2, r2, h3⟩
      | _ => exact hq
    | goto l' => obtain ⟨e', r', hf⟩ := hq; exact hf.elim
    | _ => exact hq
  · intro a w hI
    obtain ⟨⟨s, ⟨e, r, hs⟩, hμ⟩, _⟩ := ghost_spec (μ := μ) hI
    refine wp_mono (den_sound htt hmix rest _ e w a r hr (pass' s e w hs)) ?_
    intro ex a' w' hq
    cases ex with
    | goto l' =>
      obtain ⟨e', r', h1, s', h2, h3⟩ := hq
      have hJ : G s' (a', w') := ⟨e', r', h2⟩
      have := (ghost_spec (μ := μ) ⟨s', hJ⟩).2 s' hJ
      exact ⟨h1, ⟨s', hJ⟩, by rw [← hμ]; omega⟩
    | _ => exact hq

theorem jl2 {n : Nat} {sc : Nat → Sc} {p1 p2 rest0 rest : Code} {K : Ks} {e : Env} {w : World} (htt : ∀ t i, tt t = some i → tiOf P t = some i) (hmix : P.follows .mixedOrders = true)
    (l : Nat) (hf : findLabel (.seq p1 (.seq p2 (.seq (.label l) rest0))) l = some rest) (hp1 : chk n sc p1 = true) (hp2 : chk n sc p2 = true) (hc : chk n sc (.seq (.label l) rest0) = true) (hr : chk n sc rest = true)
    (hd : ∀ K e w, den P tt n sc rest K e w → den P tt n sc (.seq (.label l) rest0) K e w) {σ : Type} (L : σ → List (Nat × Value)) (J : σ → World → Prop) (μ : σ → Nat)
    (first : den P tt n sc p1 { nrm := den P tt n sc p2 { nrm := fun e' w' => ∃ s, Has e' (L s) ∧ J s w', ext := K.ext, gto := fun _ _ _ => False, ret := K.ret }, ext := K.ext, gto := fun _ _ _ => False, ret := K.ret } e w)
    (pass : ∀ s e w, J s w → den P tt n sc rest { K with gto := fun l' e' w' => l' = l ∧ ∃ s', (Has e' (L s') ∧ J s' w') ∧ μ s' < μ s } (upds e (L s)) w) : SemK P n (.scope (.seq p1 (.seq p2 (.seq (.label l) rest0)))) K e w := by
  have pass' : ∀ s e w, (Has e (L s) ∧ J s w) → den P tt n sc rest { K with gto := fun l' e' w' => l' = l ∧ ∃ s', (Has e' (L s') ∧ J s' w') ∧ μ s' < μ s } e w := fun s e w ⟨h1, h2⟩ => by
    have := pass s e w h2
    rw [h1.upds] at this
    exact this
  refine ⟨fun a r => ?_⟩
  let G : σ → Act × World → Prop := fun s x => ∃ e, Rep n x.1 e ∧ Has e (L s) ∧ J s x.2
  refine wp_scope_jumps l (fun a w => ∃ s, G s (a, w)) (fun a w => ghost G μ (a, w)) hf ?_ ?_
  · refine wp_seq (wp_mono (den_sound htt hmix p1 _ e w a r hp1 first) ?_)
    intro ex a' w' hq
    cases ex with
    | normal =>
      obtain ⟨e', r', h0⟩ := hq
      refine wp_seq (wp_mono (den_sound htt hmix p2 _ e' w' a' r' hp2 h0) ?_)
      intro ex a' w' hq
      cases ex with
      | normal =>
        obtain ⟨e', r', s, h1⟩ := hq
        refine wp_mono (den_sound htt hmix (.seq (.label l) rest0) _ e' w' a' r' hc (hd _ _ _ (pass' s e' w' h1))) ?_
        intro ex a2 w2 hq
        cases ex with
        | goto l' => obtain ⟨e2, r2, h2, s', h3, h4⟩ := hq; exact ⟨h2, s', e2, r2, h3⟩
        | _ => exact hq
      | goto l' => obtain ⟨e', r', hf⟩ := hq; exact hf.elim
      | _ => exact hq
    | goto l' => obtain ⟨e', r', hf⟩ := hq; exact hf.elim
    | _ => exact hq
  · intro a w hI
    obtain ⟨⟨s, ⟨e, r, hs⟩, hμ⟩, _⟩ := ghost_spec (μ := μ) hI
    refine wp_mono (den_sound htt hmix rest _ e w a r hr (pass' s e w hs)) ?_
    intro ex a' w' hq
    cases ex with
    | goto l' =>
      obtain ⟨e', r', h1, s', h2, h3⟩ := hq
      have hJ : G s' (a', w') := ⟨e', r', h2⟩
      have := (ghost_spec (μ := μ) ⟨s', hJ⟩).2 s' hJ
      exact ⟨h1, ⟨s', hJ⟩, by rw [← hμ]; omega⟩
    | _ => exact hq

/-- the label stands at the scope's very head -/
theorem jl0 {n : Nat} {sc : Nat → Sc} {rest0 rest : Code} {K : Ks} {e : Env} {w : World} (htt : ∀ t i, tt t = some i → tiOf P t = some i) (hmix : P.follows .mixedOrders = true)
    (l : Nat) (hf : findLabel (.seq (.label l) rest0) l = some rest) (hc : chk n sc (.seq (.label l) rest0) = true) (hr : chk n sc rest = true)
    (hd : ∀ K e w, den P tt n sc rest K e w → den P tt n sc (.seq (.label l) rest0) K e w) {σ : Type} (L : σ → List (Nat × Value)) (J : σ → World → Prop) (μ : σ → Nat) (s0 : σ) (h0 : Has e (L s0)) (j0 : J s0 w)
    (pass : ∀ s e w, J s w → den P tt n sc rest { K with gto := fun l' e' w' => l' = l ∧ ∃ s', (Has e' (L s') ∧ J s' w') ∧ μ s' < μ s } (upds e (L s)) w) : SemK P n (.scope (.seq (.label l) rest0)) K e w := by
  have pass' : ∀ s e w, (Has e (L s) ∧ J s w) → den P tt n sc rest { K with gto := fun l' e' w' => l' = l ∧ ∃ s', (Has e' (L s') ∧ J s' w') ∧ μ s' < μ s } e w := fun s e w ⟨h1, h2⟩ => by
    have := pass s e w h2
    rw [h1.upds] at this
    exact this
  refine ⟨fun a r => ?_⟩
  let G : σ → Act × World → Prop := fun s x => ∃ e, Rep n x.1 e ∧ Has e (L s) ∧ J s x.2
  refine wp_scope_jumps l (fun a w => ∃ s, G s (a, w)) (fun a w => ghost G μ (a, w)) hf ?_ ?_
  · refine wp_mono (den_sound htt hmix (.seq (.label l) rest0) _ e w a r hc (hd _ _ _ (pass' s0 e w ⟨h0, j0⟩))) ?_
    intro ex a2 w2 hq
    cases ex with
    | goto l' => obtain ⟨e2, r2, h2, s', h3, h4⟩ := hq; exact ⟨h2, s', e2, r2, h3⟩
    | _ => exact hq
  · intro a w hI
    obtain ⟨⟨s, ⟨e, r, hs⟩, hμ⟩, _⟩ := ghost_spec (μ := μ) hI
    refine wp_mono (den_sound htt hmix rest _ e w a r hr (pass' s e w hs)) ?_
    intro ex a' w' hq
    cases ex with
    | goto l' =>
      obtain ⟨e', r', h1, s', h2, h3⟩ := hq
      have hJ : G s' (a', w') := ⟨e', r', h2⟩
      have := (ghost_spec (μ := μ) ⟨s', hJ⟩).2 s' hJ
      exact ⟨h1, ⟨s', hJ⟩, by rw [← hμ]; omega⟩
    | _ => exact hq
end

end Go.Pan

namespace Go.Proofs.Ytlpndcfkjkbeoaa
open Go Go.Pan

/-! ### slots: the representation -/

abbrev T_cell := T_slots_cell_node_Node
abbrev T_slots := T_slots_Slots_node_Node

/-- a cell: an address, and the block of a thing, or nothing -/
def cellV (c : Nat × Option Nat) : List Value := [I c.1, ptrO c.2, .bool c.2.isSome]
theorem cellV_len (c : Nat × Option Nat) : (cellV c).length = 3 := rfl
theorem cellV_flat (c : Nat × Option Nat) : (cellV c).all flat = true := by obtain ⟨a, _ | b⟩ := c <;> rfl

/-- the cells that have a thing -/
def thingsOf (C : List (Nat × Option Nat)) : List (Nat × Nat) := C.filterMap fun c => c.2.map (c.1, ·)

def Rising {α : Type} (C : List (Nat × α)) : Prop := C.Pairwise (fun a b => a.1 < b.1)

theorem Rising.at_lt {α : Type} {C : List (Nat × α)} (h : Rising C) {i j : Nat} (hij : i < j) (hj : j < C.length) : (C[i]'(by omega)).1 < C[j].1 :=
  List.pairwise_iff_getElem.1 h i j (by omega) hj hij
theorem Rising.at_le {α : Type} {C : List (Nat × α)} (h : Rising C) {i j : Nat} (hij : i ≤ j) (hj : j < C.length) : (C[i]'(by omega)).1 ≤ C[j].1 := by
  rcases Nat.lt_or_ge i j with g | g
  · exact Nat.le_of_lt (h.at_lt g hj)
  · have : i = j := by omega
    subst this; exact Nat.le_refl _

/-- cells, as they stand in memory -/
structure CellsRep (h : Array Obj) (b k n : Nat) (C : List (Nat × Option Nat)) : Prop where
  blk : ∃ v, h[b]? = some (.cells #[I k, I n, v] T_slots (0, 0)) ∧ Rw h v C.length (C.flatMap cellV)
  rising : Rising C
  small : ∀ c ∈ C, c.1 < 2 ^ k
  k1 : 1 ≤ k
  k16 : k ≤ 16

structure SlotsRep (h : Array Obj) (b k : Nat) (m : List (Nat × Nat)) : Prop where
  cells : ∃ C, CellsRep h b k m.length C ∧ thingsOf C = m

theorem CellsRep.ext {h h' : Array Obj} (x : HExt h h') {b k n : Nat} {C : List (Nat × Option Nat)} (s : CellsRep h b k n C) : CellsRep h' b k n C := by
  obtain ⟨⟨v, hb, hr⟩, h1, h2, h3, h4⟩ := s
  exact ⟨⟨v, x.blk hb, hr.ext x⟩, h1, h2, h3, h4⟩
theorem SlotsRep.ext {h h' : Array Obj} (x : HExt h h') {b k : Nat} {m : List (Nat × Nat)} (s : SlotsRep h b k m) : SlotsRep h' b k m := by
  obtain ⟨C, hc, e⟩ := s
  exact ⟨C, hc.ext x, e⟩

theorem rising_len {α : Type} {C : List (Nat × α)} {n : Nat} (h : Rising C) (hs : ∀ c ∈ C, c.1 < n) : C.length ≤ n := by
  have key : ∀ i (hi : i < C.length), i ≤ C[i].1 := by
    intro i
    induction i with
    | zero => intro _; omega
    | succ i ih =>
      intro hi
      have := ih (by omega)
      have := h.at_lt (show i < i + 1 by omega) hi
      omega
  rcases Nat.eq_zero_or_pos C.length with g | g
  · omega
  · have := key (C.length - 1) (by omega)
    have := hs _ (List.getElem_mem (show C.length - 1 < C.length by omega))
    omega

theorem CellsRep.len {h : Array Obj} {b k n : Nat} {C : List (Nat × Option Nat)} (s : CellsRep h b k n C) : C.length ≤ 65536 := by
  have := rising_len s.rising s.small
  have : (2 : Nat) ^ k ≤ 2 ^ 16 := Nat.pow_le_pow_right (by decide) s.k16
  omega

/-- the place from which an address on stands -/
structure FindAt (C : List (Nat × Option Nat)) (addr : Int) (at_ : Nat) (ok : Bool) : Prop where
  le : at_ ≤ C.length
  lo : ∀ i (h : i < C.length), i < at_ → (C[i].1 : Int) < addr
  hi : ∀ i (h : i < C.length), at_ ≤ i → addr ≤ C[i].1
  ok : ok = true ↔ ∃ h : at_ < C.length, (C[at_].1 : Int) = addr ∧ C[at_].2.isSome = true

set_option maxHeartbeats 1000000 in
theorem find_spec {b k n : Nat} {C : List (Nat × Option Nat)} {w : World} (s : CellsRep w.heap b k n C) (addr : Int) :
    CallK Try.prog F_slots_Slots_node_Node_find [ptr b, I addr] (fun r w' => Ext w w' ∧ ∃ (at_ : Nat) (ok : Bool), r = .tuple #[I at_, .bool ok] ∧ FindAt C addr at_ ok) w := by
  have hlen := s.len
  obtain ⟨⟨v, hb, hr⟩, hrise, -, -, -⟩ := s
  obtain ⟨a, cap, rfl⟩ := hr.form
  refine e_slots_Slots_node_Node_find rfl ?_
  refine jl (sc := sc_slots_Slots_node_Node_find) tt_ok hmix 0 rfl (by kernel_rfl) (by kernel_rfl) (by kernel_rfl) (fun _ _ _ h => h) (fun s : Nat × Nat => [(0, ptr b), (1, I addr), (6, I s.1), (7, I s.2)])
    (fun s w' => Ext w w' ∧ s.1 ≤ s.2 ∧ s.2 ≤ C.length ∧ (∀ i (h : i < C.length), i < s.1 → (C[i].1 : Int) < addr) ∧ (∀ i (h : i < C.length), s.2 ≤ i → addr ≤ C[i].1 ∧ ((C[i].1 : Int) = addr → False))) (fun s => s.2 - s.1) ?_ ?_
  · refine ⟨by decide, ldB hb rfl ?_⟩
    exact ⟨(0, C.length), ⟨rfl, rfl, rfl, rfl, trivial⟩, Ext.drw w, by simp, by simp, fun i _ h => absurd h (Nat.not_lt_zero _), fun i h g => absurd h (Nat.not_lt.2 g)⟩
  · rintro ⟨lo, hi⟩ e w1 ⟨hx, h1, h2, hlo, hhi⟩
    simp only at h1 h2 hlo hhi
    refine ts (fun g => ?_) (fun g => ?_)
    · have : lo = hi := by omega
      subst this
      refine ⟨hx, lo, false, rfl, h2, hlo, fun i h g => (hhi i h g).1, ?_⟩
      simp only [Bool.false_eq_true, false_iff]
      rintro ⟨h, e, -⟩
      exact (hhi lo h (Nat.le_refl _)).2 e
    · refine nm (v := ((lo + hi : Nat) : Int)) (wr64 (by simp) (by omega) (by omega)) ?_
      refine nm (v := ((lo + hi : Nat) : Int)) (wru64 rfl (by omega) (by omega)) ?_
      refine ⟨by decide, nm (shr_nat (lo + hi) 1 64 (by omega)) ?_⟩
      refine nm (v := (((lo + hi) / 2 : Nat) : Int)) (wr64 (by simp) (by omega) (by omega)) ?_
      generalize hm : (lo + hi) / 2 = m
      have hmC : m < C.length := by omega
      obtain ⟨cb, co, rfl, hcs⟩ := hr.place (by omega)
      refine ⟨by decide, ldB (hx.blk hb) rfl ?_⟩
      refine ix rfl hmC ?_
      refine ldC (cs := cellV C[m]) ((hx.1.cels hcs).sub (flat_elem cellV_len C m hmC)) rfl ?_
      refine al ?_
      intro cb' w2 hcb hx2 hsz2 hblk2
      refine st hblk2 rfl rfl (cellV_flat _) ?_
      intro w3 u3
      have hx3 : Ext w w3 := (hx.trans hx2).upd (by have := hx.1.1; omega) u3
      have hb3 : w3.heap[cb']? = some (.cells (cellV C[m]).toArray T_cell (0, 0)) := u3.new
      refine ⟨by decide, ldB hb3 rfl ?_⟩
      refine ts (fun g1 => ?_) (fun g1 => ?_)
      · refine ⟨by decide, ldB hb3 rfl ?_⟩
        refine ⟨hx3, m, C[m].2.isSome, rfl, by omega, fun i h g2 => ?_, fun i h g2 => ?_, ?_⟩
        · have := hrise.at_lt g2 hmC
          omega
        · have := hrise.at_le g2 h
          omega
        · exact ⟨fun h => ⟨hmC, g1, h⟩, fun ⟨_, _, h⟩ => h⟩
      · refine ⟨by decide, ldB hb3 rfl ?_⟩
        refine ts (fun g2 => ?_) (fun g2 => ?_)
        · refine nm (inc64 (by omega)) ?_
          refine ⟨rfl, (m + 1, hi), ⟨⟨rfl, rfl, rfl, rfl, trivial⟩, hx3, by simp only; omega, h2, fun i h g3 => ?_, hhi⟩, by simp only; omega⟩
          have := hrise.at_le (show i ≤ m by simp only at g3; omega) hmC
          omega
        · refine ⟨rfl, (lo, m), ⟨⟨rfl, rfl, rfl, rfl, trivial⟩, hx3, by simp only; omega, by simp only; omega, hlo, fun i h g3 => ?_⟩, by simp only; omega⟩
          have := hrise.at_le (show m ≤ i from g3) h
          exact ⟨by omega, fun e => by omega⟩

theorem mem_things {C : List (Nat × Option Nat)} {a p : Nat} : (a, p) ∈ thingsOf C ↔ (a, some p) ∈ C := by
  simp only [thingsOf, List.mem_filterMap, Option.map_eq_some_iff, Prod.mk.injEq, Prod.exists]
  constructor
  · rintro ⟨x, y, h, z, rfl, rfl, rfl⟩; exact h
  · intro h; exact ⟨a, some p, h, p, rfl, rfl, rfl⟩

theorem thingsOf_append (A B : List (Nat × Option Nat)) : thingsOf (A ++ B) = thingsOf A ++ thingsOf B := List.filterMap_append ..

theorem things_rising {C : List (Nat × Option Nat)} (h : Rising C) : Rising (thingsOf C) := by
  induction C with
  | nil => exact List.Pairwise.nil
  | cons c C ih =>
    obtain ⟨h1, h2⟩ := List.pairwise_cons.1 h
    obtain ⟨a, _ | p⟩ := c
    · exact ih h2
    · refine List.pairwise_cons.2 ⟨?_, ih h2⟩
      rintro ⟨b, q⟩ hb
      exact h1 _ (mem_things.1 hb)

theorem things_len {C : List (Nat × Option Nat)} : (thingsOf C).length ≤ C.length := List.length_filterMap_le ..

theorem SlotsRep.rising {h : Array Obj} {b k : Nat} {m : List (Nat × Nat)} (s : SlotsRep h b k m) : Rising m := by
  obtain ⟨C, hc, e⟩ := s.cells
  rw [← e]; exact things_rising hc.rising
theorem SlotsRep.small {h : Array Obj} {b k : Nat} {m : List (Nat × Nat)} (s : SlotsRep h b k m) : ∀ c ∈ m, c.1 < 2 ^ k := by
  obtain ⟨C, hc, e⟩ := s.cells
  rintro ⟨a, p⟩ h
  rw [← e] at h
  exact hc.small _ (mem_things.1 h)
theorem SlotsRep.len {h : Array Obj} {b k : Nat} {m : List (Nat × Nat)} (s : SlotsRep h b k m) : m.length ≤ 65536 := by
  obtain ⟨C, hc, e⟩ := s.cells
  have := hc.len
  have := things_len (C := C)
  rw [e] at this
  omega

theorem rising_inj {α : Type} {m : List (Nat × α)} (h : Rising m) {a : Nat} {p q : α} (hp : (a, p) ∈ m) (hq : (a, q) ∈ m) : p = q := by
  obtain ⟨i, hi, ei⟩ := List.getElem_of_mem hp
  obtain ⟨j, hj, ej⟩ := List.getElem_of_mem hq
  rcases Nat.lt_trichotomy i j with g | g | g
  · have := h.at_lt g hj; rw [ei, ej] at this; simp at this
  · subst g; rw [ei] at ej; simpa using ej
  · have := h.at_lt g hi; rw [ei, ej] at this; simp at this

theorem get_spec {b k : Nat} {m : List (Nat × Nat)} {w : World} (s : SlotsRep w.heap b k m) (addr : Nat) :
    CallK Try.prog F_slots_Slots_node_Node_Get [ptr b, I addr] (fun r w' => Ext w w' ∧ ∃ o : Option Nat, r = .tuple #[ptrO o, .bool o.isSome] ∧ ∀ p, o = some p ↔ (addr, p) ∈ m) w := by
  obtain ⟨C, hc, e⟩ := s.cells
  have hlen := hc.len
  refine e_slots_Slots_node_Node_Get rfl ?_
  refine cl (find_spec hc addr) ?_
  rintro _ w1 ⟨hx, at_, ok, rfl, hle, hlo, hhi, hok⟩
  cases ok with
  | false =>
    refine ⟨hx, none, rfl, fun p => ⟨fun h => (by cases h), fun h => ?_⟩⟩
    exfalso
    rw [← e, mem_things] at h
    obtain ⟨i, hi, ei⟩ := List.getElem_of_mem h
    have h1 : ¬ i < at_ := fun g => by have := hlo i hi g; rw [ei] at this; simp at this
    have h2 : ¬ at_ < i := fun g => by
      have := hc.rising.at_lt g hi
      have := hhi at_ (by omega) (Nat.le_refl _)
      rw [ei] at *; simp at *; omega
    have : i = at_ := by omega
    subst this
    have := hok.2 ⟨hi, by rw [ei], by rw [ei]; rfl⟩
    cases this
  | true =>
    obtain ⟨hat, ha, hs⟩ := hok.1 rfl
    obtain ⟨v, hb, hr⟩ := hc.blk
    obtain ⟨a, cap, rfl⟩ := hr.form
    obtain ⟨cb, co, rfl, hcs⟩ := hr.place (by omega)
    refine ⟨by decide, ldB (hx.blk hb) rfl ?_⟩
    refine ix rfl hat ?_
    refine ⟨by decide, ?_⟩
    refine ld (v := ptrO C[at_].2) (hx.cel (hcs.get (j := at_ * 3 + 1) ?_)) ?_
    · rw [flat_get cellV_len C at_ 1 hat (by decide)]; rfl
    obtain ⟨p, hp⟩ := Option.isSome_iff_exists.1 hs
    refine ⟨hx, some p, by rw [hp]; rfl, fun q => ?_⟩
    rw [← e, mem_things]
    have hmem : (addr, some p) ∈ C := by
      have := List.getElem_mem hat
      rwa [show C[at_] = (addr, some p) from Prod.ext (by omega) hp] at this
    exact ⟨fun h => by cases h; exact hmem, fun h => rising_inj hc.rising hmem h⟩

def fromV : Option (Nat × Nat) → Value
  | some (a, p) => .tuple #[I a, ptr p, .bool true]
  | none => .tuple #[I 0, nilp, .bool false]

/-- the first of the kids from an address on -/
structure FromAt (m : List (Nat × Nat)) (addr : Int) (i : Nat) : Prop where
  le : i ≤ m.length
  lo : ∀ j (h : j < m.length), j < i → (m[j].1 : Int) < addr
  hi : ∀ j (h : j < m.length), i ≤ j → addr ≤ m[j].1

theorem from_spec {b k : Nat} {m : List (Nat × Nat)} {w : World} (s : SlotsRep w.heap b k m) (addr : Int) :
    CallK Try.prog F_slots_Slots_node_Node_From [ptr b, I addr] (fun r w' => Ext w w' ∧ ∃ i : Nat, r = fromV m[i]? ∧ FromAt m addr i) w := by
  obtain ⟨C, hc, e⟩ := s.cells
  have hlen := hc.len
  refine e_slots_Slots_node_Node_From rfl ?_
  refine cl (find_spec hc addr) ?_
  rintro _ w1 ⟨hx, at_, ok, rfl, hle, hlo, hhi, hok⟩
  obtain ⟨v, hb, hr⟩ := hc.blk
  obtain ⟨a, cap, rfl⟩ := hr.form
  -- what is known of the things ahead of a place
  have ahead : ∀ j, j ≤ C.length → (∀ i (h : i < C.length), at_ ≤ i → i < j → C[i].2 = none) → ∀ c ∈ thingsOf (C.take j), (c.1 : Int) < addr := by
    rintro j hj hn ⟨x, p⟩ hm
    rw [mem_things] at hm
    obtain ⟨i, hi, ei⟩ := List.getElem_of_mem hm
    rw [List.length_take] at hi
    rw [List.getElem_take] at ei
    rcases Nat.lt_or_ge i at_ with g | g
    · have := hlo i (by omega) g; rw [ei] at this; exact this
    · have := hn i (by omega) g (by omega); rw [ei] at this; cases this
  have behind : ∀ j, at_ ≤ j → ∀ c ∈ thingsOf (C.drop j), addr ≤ (c.1 : Int) := by
    rintro j hj ⟨x, p⟩ hm
    rw [mem_things] at hm
    obtain ⟨i, hi, ei⟩ := List.getElem_of_mem hm
    rw [List.length_drop] at hi
    rw [List.getElem_drop] at ei
    have := hhi (j + i) (by omega) (by omega)
    rw [ei] at this; exact this
  have cut : ∀ j, at_ ≤ j → j ≤ C.length → (∀ i (h : i < C.length), at_ ≤ i → i < j → C[i].2 = none) → FromAt m addr (thingsOf (C.take j)).length ∧ m[(thingsOf (C.take j)).length]? = (thingsOf (C.drop j))[0]? := by
    intro j h1 h2 hn
    have e2 : m = thingsOf (C.take j) ++ thingsOf (C.drop j) := by rw [← thingsOf_append, List.take_append_drop]; exact e.symm
    refine ⟨⟨by rw [e2]; simp, fun i h g => ?_, fun i h g => ?_⟩, ?_⟩
    · refine ahead j h2 hn _ ?_
      subst e2
      rw [List.getElem_append_left g]
      exact List.getElem_mem _
    · refine behind j h1 _ ?_
      subst e2
      rw [List.getElem_append_right g]
      exact List.getElem_mem _
    · rw [e2, List.getElem?_append_right (Nat.le_refl _), Nat.sub_self]
  refine lp (fun j : Nat => [(0, ptr b), (1, I addr), (7, nilp), (8, I j)])
    (fun j w' => Ext w w' ∧ at_ ≤ j ∧ j ≤ C.length ∧ ∀ i (h : i < C.length), at_ ≤ i → i < j → C[i].2 = none) (fun j => C.length - j) at_ ⟨rfl, rfl, rfl, rfl, trivial⟩ ⟨hx, Nat.le_refl _, hle, fun i _ h1 h2 => by omega⟩ ?_
  rintro j e0 w2 ⟨hx2, h1, h2, hn⟩
  refine ⟨by decide, ldB (hx2.blk hb) rfl ?_⟩
  refine ts (fun g => ?_) (fun g => ?_)
  · have hj : j < C.length := by omega
    obtain ⟨cb, co, rfl, hcs⟩ := hr.place (by omega)
    refine ⟨by decide, ldB (hx2.blk hb) rfl ?_⟩
    refine ix rfl hj ?_
    refine ldC (cs := cellV C[j]) ((hx2.1.cels hcs).sub (flat_elem cellV_len C j hj)) rfl ?_
    refine al ?_
    intro cb' w3 hcb hx3 hsz3 hblk3
    refine st hblk3 rfl rfl (cellV_flat _) ?_
    intro w4 u4
    have hx4 : Ext w w4 := (hx2.trans hx3).upd (by have := hx2.1.1; omega) u4
    have hb4 : w4.heap[cb']? = some (.cells (cellV C[j]).toArray T_cell (0, 0)) := u4.new
    refine ⟨by decide, ldB hb4 rfl ?_⟩
    cases hC : C[j].2 with
    | some p =>
      refine ⟨by decide, ldB (drw w4 |> fun _ => hb4) rfl ?_⟩
      refine ⟨by decide, ldB hb4 rfl ?_⟩
      obtain ⟨hf, hm⟩ := cut j h1 h2 hn
      refine ⟨hx4, _, ?_, hf⟩
      rw [hm, List.drop_eq_getElem_cons hj, show C[j] = (C[j].1, some p) from Prod.ext rfl hC]
      rfl
    | none =>
      refine nm (inc64 (by omega)) ?_
      refine ⟨j + 1, ⟨⟨rfl, rfl, rfl, rfl, trivial⟩, hx4, by omega, hj, fun i h g1 g2 => ?_⟩, by omega⟩
      rcases Nat.lt_or_ge i j with g3 | g3
      · exact hn i h g1 g3
      · have : i = j := by omega
        subst this; exact hC
  · obtain ⟨hf, hm⟩ := cut j h1 h2 hn
    refine ⟨hx2, _, ?_, hf⟩
    rw [hm, List.drop_eq_nil_of_le (by omega)]
    rfl

theorem dense_spec {k n : Nat} (hk : k ≤ 16) (hn : n ≤ 65536) (w : World) : CallK Try.prog F_slots_dense [I k, I n] (fun r w' => w = w' ∧ r = .bool (decide (k ≤ 6 ∧ 2 ^ k < 2 * n))) w := by
  have hp : 2 ^ k ≤ 2 ^ 16 := Nat.pow_le_pow_right (by decide) hk
  refine e_slots_dense rfl ?_
  refine ts (fun g => ?_) (fun g => ?_)
  · refine nm (v := ((2 * n : Nat) : Int)) (wr64 (by simp) (by omega) (by omega)) ?_
    refine ⟨by omega, nm (v := ((1 * 2 ^ k : Nat) : Int)) (shl_i64 (a := 1) (by omega) (by omega)) ?_⟩
    refine ts (fun g2 => ?_) (fun g2 => ?_)
    · exact ⟨rfl, by rw [decide_eq_true (by omega)]; rfl⟩
    · exact ⟨rfl, by rw [decide_eq_false (by omega)]; rfl⟩
  · exact ⟨rfl, by rw [decide_eq_false (by omega)]; rfl⟩

theorem slots_len_spec {b k : Nat} {m : List (Nat × Nat)} {w : World} (s : SlotsRep w.heap b k m) :
    CallK Try.prog F_slots_Slots_node_Node_Len [ptr b] (fun r w' => w = w' ∧ r = I m.length) w := by
  obtain ⟨C, hc, e⟩ := s.cells
  obtain ⟨v, hb, hr⟩ := hc.blk
  refine e_slots_Slots_node_Node_Len rfl ?_
  refine ⟨by decide, ldB hb rfl ?_⟩
  exact ⟨rfl, rfl⟩

theorem slots_check_spec {b k : Nat} {m : List (Nat × Nat)} {w : World} (s : SlotsRep w.heap b k m) (addr : Nat) (ha : addr < 2 ^ k) :
    CallK Try.prog F_slots_Slots_node_Node_check [ptr b, I addr] (fun r w' => w = w' ∧ r = I 0) w := by
  obtain ⟨C, hc, e⟩ := s.cells
  obtain ⟨v, hb, hr⟩ := hc.blk
  have hk := hc.k16
  have hp : 2 ^ k ≤ 2 ^ 16 := Nat.pow_le_pow_right (by decide) hk
  refine e_slots_Slots_node_Node_check rfl ?_
  refine tsF (by omega) ?_
  refine ⟨by decide, ldB hb rfl ?_⟩
  refine ⟨by omega, nm (v := ((1 * 2 ^ k : Nat) : Int)) (shl_i64 (a := 1) (by omega) (by omega)) ?_⟩
  refine tsF (by omega) ?_
  exact ⟨rfl, rfl⟩

theorem slots_new_spec {k : Nat} (h1 : 1 ≤ k) (h2 : k ≤ 16) (w : World) :
    CallK Try.prog F_slots_New_node_Node [I k] (fun r w' => ∃ b, r = .tuple #[ptr b, I 0] ∧ Ext w w' ∧ SlotsRep w'.heap b k []) w := by
  refine e_slots_New_node_Node rfl ?_
  refine tsF (by omega) ?_
  refine tsF (by omega) ?_
  refine al ?_
  intro b w1 hb hx hsz hblk
  exact ⟨b, rfl, hx, ⟨[], ⟨⟨_, hblk, .nil _ _⟩, List.Pairwise.nil, by simp, h1, h2⟩, rfl⟩⟩

end Go.Proofs.Ytlpndcfkjkbeoaa

namespace Go.Pan
open Go

/-! ## Operations that the calculus leaves open: make, copy, clear, cap, append of a make -/

theorem zeros_get {zero : List Value} : ∀ (n j : Nat), (List.replicate n zero).flatten[j]? = if j < n * zero.length then zero[j % zero.length]? else none := by
  intro n
  induction n with
  | zero => intro j; simp
  | succ n ih =>
    intro j
    rw [List.replicate_succ, List.flatten_cons, List.getElem?_append]
    by_cases hj : j < zero.length
    · rw [if_pos hj, if_pos (by rw [Nat.succ_mul]; omega), Nat.mod_eq_of_lt hj]
    · rw [if_neg hj, ih (j - zero.length)]
      rw [Nat.mod_eq_sub_mod (a := j) (by omega)]
      by_cases hj2 : j < (n + 1) * zero.length
      · rw [if_pos hj2, if_pos (by rw [Nat.succ_mul] at hj2; omega)]
      · rw [if_neg hj2, if_neg (by rw [Nat.succ_mul] at hj2; omega)]

theorem made_flat {z : Array Value} {zero : List Value} (hz : z.toList = zero) (h0 : 0 < zero.length) (n : Nat) : ((Array.range (n * zero.length)).map (fun i => z[i % z.size]!)).toList = (List.replicate n zero).flatten := by
  have hzs : z.size = zero.length := by rw [← hz, Array.length_toList]
  apply List.ext_getElem?
  intro j
  simp only [Array.toList_map, Array.toList_range, List.getElem?_map, hzs]
  rw [zeros_get n j]
  by_cases hj : j < n * zero.length
  · rw [if_pos hj]
    have hm : j % zero.length < zero.length := Nat.mod_lt _ h0
    have hm2 : j % zero.length < z.size := by rw [hzs]; exact hm
    rw [List.getElem?_eq_getElem (by simpa using hj), List.getElem_range, Option.map_some, getElem!_pos z (j % zero.length) hm2, List.getElem?_eq_getElem hm]
    congr 1
    subst hz
    simp
  · rw [if_neg hj, List.getElem?_eq_none (by simpa using hj)]
    rfl

theorem zeros_len {zero : List Value} (n : Nat) : (List.replicate n zero).flatten.length = n * zero.length := by
  induction n with
  | zero => simp
  | succ n ih => rw [List.replicate_succ, List.flatten_cons, List.length_append, ih, Nat.succ_mul]; omega

section
variable {P : Program} {tt : Nat → Option TI} (htt : ∀ t i, tt t = some i → tiOf P t = some i)
include htt

theorem mk {o : Oper} {ρ : Operand → Value} {K : Value → World → Prop} {w : World} {t : TypeId} {l c : Operand}
    (ho : o.op = .makeSlice t l c) {a b : Nat} {cc : Bool} {z : List Value} {e : TypeId} {esz : Nat} (ht : tt t = some ⟨a, b, cc, z, .slice e esz⟩)
    {ie : TI} (he : tt e = some ie) (h0 : 0 < ie.zero.length) (hzl : ie.zero.length = ie.size) {n : Nat} (hl : ρ l = I n) (hc : ρ c = I n) (hby : ie.bytes * n ≤ 281474976710656) (h63 : n ≤ 9223372036854775807)
    (hk : ∀ b w', b = w.heap.size → Ext w w' → w'.heap.size = b + 1 → w'.heap[b]? = some (.cells (List.replicate n ie.zero).flatten.toArray e (0, 0)) → K (.slice (some ⟨b, 0, none⟩) n n) w') : GenK P o ρ K w := by
  obtain ⟨i1, d1, z1, o1⟩ := tiOf_spec (htt _ _ ht)
  obtain ⟨i2, d2, z2, o2⟩ := tiOf_spec (htt _ _ he)
  obtain ⟨hd, _, _⟩ := kind_slice o1.kind
  subst hd
  have hb' : (i2.bytes : Int) * (n : Int) ≤ 281474976710656 := by
    rw [o2.bytes]
    have h : ((ie.bytes * n : Nat) : Int) ≤ 281474976710656 := by omega
    rwa [Int.natCast_mul] at h
  have hr := run_make (P := P) w t e i2 z2 o1.und o2.info o2.zero .i64 .i64 n n (by omega) (Int.le_refl _) hb' (by omega)
  simp only [Int.toNat_natCast] at hr
  have hcells : madeCells z2.cells (n * i2.size) = (List.replicate n ie.zero).flatten.toArray := by
    apply Array.toList_inj.1
    rw [o2.size, ← hzl]
    exact made_flat o2.zcells h0 n
  rw [hcells] at hr
  refine ⟨?_⟩
  have : (execOp ρ o).run P w = .ok (.value (.slice (some ⟨w.heap.size, 0, none⟩) n n)) (w.alloc (.cells (List.replicate n ie.zero).flatten.toArray e)) := by
    simp only [execOp, ho, hl, hc]
    exact rd_value hr
  rw [this]
  exact hk _ _ rfl (Ext.of_push w _) (by simp) (heap_alloc_new w _)

theorem cpy {o : Oper} {ρ : Operand → Value} {K : Value → World → Prop} {w : World} {d s : Operand} {t t' : TypeId}
    (ho : o.op = .call { callee := .builtin .copy, args := #[d, s], argTypes := #[t, t'] }) {x y : Nat} {cc : Bool} {z : List Value} {e : TypeId} {esz : Nat} (ht : tt t = some ⟨x, y, cc, z, .slice e esz⟩)
    {b q dl dcap : Nat} (hd : ρ d = .slice (some ⟨b, q, none⟩) dl dcap) {a : Addr} {sl scap : Nat} (hs : ρ s = .slice (some a) sl scap) {cs0 cs : List Value} {t0 : TypeId}
    (hb : w.heap[b]? = some (.cells (List.toArray cs0) t0 (0, 0))) {n : Nat} (hn : min sl dl = n) (hl : cs.length = n * esz) (hc : celsAt w.heap a cs) (hfit : q + cs.length ≤ cs0.length) (hf : cs.all flat = true)
    (hk : ∀ w', Upd w w' b (.cells (setL cs0 q cs).toArray t0 (0, 0)) → K (I n) w') : GenK P o ρ K w := by
  obtain ⟨i1, d1, z1, o1⟩ := tiOf_spec (htt _ _ ht)
  obtain ⟨hd', hsz, he⟩ := kind_slice o1.kind
  subst hd'
  have hsz' : ∀ w, (sizeOf e).run P w = .ok esz w := fun w => by rw [run_sz w he, hsz]
  have hload := run_firstCells_some (P := P) w esz n a sl scap cs hl (fun j v hj => hc j v hj)
  have hst := run_storeCells_at P b q t0 cs 0 cs0.toArray w hb (by simpa using hfit) (oneCell_of_flat hf)
  simp only [Nat.add_zero] at hst
  refine ⟨?_⟩
  have : (execOp ρ o).run P w = .ok (.value (I n)) (w.setRow b (setL cs0 q cs).toArray) := by
    simp only [execOp, ho, resolve, Sem.run_bind, Sem.run_pure, Result.andThen_ok, invoke, builtin]
    have e1 : (#[d, s] : Array Operand).map ρ = #[.slice (some ⟨b, q, none⟩) dl dcap, .slice (some a) sl scap] := by simp [hd, hs]
    have hnn : Nat.min sl dl = n := hn
    rw [e1]
    simp [Builtin.copy_, run_und w o1.und, Builtin.lenOf, hsz', hnn, hload, hst, goInt, setL]
  rw [this]
  exact hk _ (upd_setRow hb)

theorem capK {o : Oper} {ρ : Operand → Value} {K : Value → World → Prop} {w : World} {s : Operand} {t : TypeId}
    (ho : o.op = .call { callee := .builtin .cap, args := #[s], argTypes := #[t] }) {x y : Nat} {cc : Bool} {z : List Value} {e : TypeId} {esz : Nat} (ht : tt t = some ⟨x, y, cc, z, .slice e esz⟩)
    {a : Option Addr} {n cap : Nat} (hs : ρ s = .slice a n cap) (hk : K (I cap) w) : GenK P o ρ K w := by
  obtain ⟨i1, d1, z1, o1⟩ := tiOf_spec (htt _ _ ht)
  obtain ⟨hd', hsz, he⟩ := kind_slice o1.kind
  subst hd'
  refine ⟨?_⟩
  have : (execOp ρ o).run P w = .ok (.value (I cap)) w := by
    simp only [execOp, ho, resolve, Sem.run_bind, Sem.run_pure, Result.andThen_ok, invoke, builtin]
    have e1 : (#[s] : Array Operand).map ρ = #[.slice a n cap] := by simp [hs]
    rw [e1]
    simp [Builtin.cap_, run_und w o1.und, goInt]
  rw [this]
  exact hk

theorem clr {o : Oper} {ρ : Operand → Value} {K : Value → World → Prop} {w : World} {s : Operand} {t : TypeId}
    (ho : o.op = .call { callee := .builtin .clear, args := #[s], argTypes := #[t] }) {x y : Nat} {cc : Bool} {z : List Value} {e : TypeId} {esz : Nat} (ht : tt t = some ⟨x, y, cc, z, .slice e esz⟩)
    {ie : TI} (he : tt e = some ie) (h0 : 0 < ie.zero.length) {b q n cap : Nat} (hs : ρ s = .slice (some ⟨b, q, none⟩) n cap) {cs0 : List Value} {t0 : TypeId}
    (hb : w.heap[b]? = some (.cells (List.toArray cs0) t0 (0, 0))) (hn : 0 < n) (hfit : q + n * ie.zero.length ≤ cs0.length) (hf : ie.zero.all flat = true)
    (hk : ∀ v w', Upd w w' b (.cells (setL cs0 q (List.replicate n ie.zero).flatten).toArray t0 (0, 0)) → K v w') : GenK P o ρ K w := by
  obtain ⟨i1, d1, z1, o1⟩ := tiOf_spec (htt _ _ ht)
  obtain ⟨hd', hsz, he'⟩ := kind_slice o1.kind
  subst hd'
  obtain ⟨i2, d2, z2, o2⟩ := tiOf_spec (htt _ _ he)
  have hz : ∀ w, (zeroValue e).run P w = .ok z2 w := fun w => run_zero w o2.info o2.zero
  have hzc : (Builtin.zeroCells z2.cells n).toList = (List.replicate n ie.zero).flatten := by
    have : z2.cells.size = ie.zero.length := by rw [← o2.zcells, Array.length_toList]
    unfold Builtin.zeroCells
    rw [this, ← made_flat o2.zcells h0 n]
    simp only [this]
  have hflat : (List.replicate n ie.zero).flatten.all flat = true := by
    apply List.all_eq_true.2
    intro v hv
    rw [List.mem_flatten] at hv
    obtain ⟨l, hl, hv⟩ := hv
    rw [List.eq_of_mem_replicate hl] at hv
    exact List.all_eq_true.1 hf v hv
  have hst := run_storeCells_at P b q t0 (List.replicate n ie.zero).flatten 0 cs0.toArray w hb (by rw [zeros_len]; simpa using hfit) (oneCell_of_flat hflat)
  simp only [Nat.add_zero] at hst
  obtain ⟨m, rfl⟩ : ∃ m, n = m + 1 := ⟨n - 1, by omega⟩
  refine ⟨?_⟩
  have : (execOp ρ o).run P w = .ok (.value (.tuple #[])) (w.setRow b (setL cs0 q (List.replicate (m + 1) ie.zero).flatten).toArray) := by
    simp only [execOp, ho, resolve, Sem.run_bind, Sem.run_pure, Result.andThen_ok, invoke, builtin]
    have e1 : (#[s] : Array Operand).map ρ = #[.slice (some ⟨b, q, none⟩) (m + 1) cap] := by simp [hs]
    rw [e1]
    simp [Builtin.clear_, run_und w o1.und, hz, hzc, hst, setL]
  rw [this]
  exact hk _ _ (upd_setRow hb)

theorem apz {o : Oper} {ρ : Operand → Value} {K : Value → World → Prop} {w : World} {s x : Operand} {t tn : TypeId}
    (ho : o.op = .call { callee := .builtin .append, args := #[s, x], argTypes := #[t, tn] }) {x1 y1 : Nat} {cc : Bool} {z : List Value} {e : TypeId} {esz : Nat} (ht : tt t = some ⟨x1, y1, cc, z, .slice e esz⟩)
    {x2 y2 : Nat} {c2 : Bool} {z2 : List Value} {kn : IntKind} (htn : tt tn = some ⟨x2, y2, c2, z2, .int kn⟩)
    {ie : TI} (he : tt e = some ie) (h0 : 0 < ie.zero.length) (hzl : ie.zero.length = ie.size) {b q n cap : Nat} (hs : ρ s = .slice (some ⟨b, q, none⟩) n cap) {k : Nat} (hx : ρ x = I k)
    {olds : List Value} (hc : celsAt w.heap ⟨b, q, none⟩ olds) (hl : olds.length = n * ie.zero.length) (hk0 : 0 < k) (hcap : cap < n + k) (h1 : n + k ≤ 4294967296) (h2 : ie.bytes ≤ 1024)
    (hk : ∀ b' w' cap' rest, b' = w.heap.size → n + k ≤ cap' → Ext w w' → w'.heap[b']? = some (.cells (olds ++ (List.replicate k ie.zero).flatten ++ rest).toArray e (0, 0)) → K (.slice (some ⟨b', 0, none⟩) (n + k) cap') w') : GenK P o ρ K w := by
  obtain ⟨i1, d1, z1, o1⟩ := tiOf_spec (htt _ _ ht)
  obtain ⟨hd', hsz, he'⟩ := kind_slice o1.kind
  subst hd'
  obtain ⟨i2, d2, zz2, o2⟩ := tiOf_spec (htt _ _ he)
  obtain ⟨i3, d3, z3, o3⟩ := tiOf_spec (htt _ _ htn)
  have hd3 := kind_int o3.kind
  subst hd3
  have hb2 : i2.bytes ≤ 1024 := by rw [o2.bytes]; exact h2
  have hold := run_firstCells_some (P := P) w.drew i2.size n ⟨b, q, none⟩ n cap olds (by rw [hl, hzl, o2.size]) (fun j v hj => hc j v hj)
  have hm : (n + k) * i2.bytes ≤ 140737488355328 := Nat.le_trans (Nat.mul_le_mul h1 hb2) (by decide)
  have hm2 : k * i2.bytes ≤ (n + k) * i2.bytes := Nat.mul_le_mul_right _ (by omega)
  have hr := Lib.run_append_grow_zeros (P := P) w t tn o.type e i2 zz2 .i64 kn o1.und o3.und o2.info o2.zero (some ⟨b, q, none⟩) n cap olds hold k hk0 (by rw [o2.size, ← hzl]; exact h0) hcap (by omega)
    (by omega) (growslice_fits hcap hm)
  have hzc : (Builtin.zeroCells zz2.cells k).toList = (List.replicate k ie.zero).flatten := by
    have : zz2.cells.size = ie.zero.length := by rw [← o2.zcells, Array.length_toList]
    unfold Builtin.zeroCells
    rw [this, ← made_flat o2.zcells h0 k]
    simp only [this]
  refine ⟨?_⟩
  have : (execOp ρ o).run P w = .ok (.value (.slice (some ⟨w.heap.size, 0, none⟩) (n + k) (grownCap w (n + k) cap e))) (w.drew.alloc (.cells (olds.toArray ++ Builtin.zeroCells zz2.cells k ++ Builtin.zeroCells zz2.cells (grownCap w (n + k) cap e - (n + k))) e)) := by
    simp only [execOp, ho, resolve, Sem.run_bind, Sem.run_pure, Result.andThen_ok, invoke, builtin]
    have e1 : (#[s, x] : Array Operand).map ρ = #[.slice (some ⟨b, q, none⟩) n cap, I k] := by simp [hs, hx]
    rw [e1, hr]
    rfl
  rw [this]
  refine hk w.heap.size _ _ (Builtin.zeroCells zz2.cells (grownCap w (n + k) cap e - (n + k))).toList rfl (grownCap_ge ..) ?_ ?_
  · exact Ext.of_push w.drew _
  · have := heap_alloc_new w.drew (.cells (olds.toArray ++ Builtin.zeroCells zz2.cells k ++ Builtin.zeroCells zz2.cells (grownCap w (n + k) cap e - (n + k))) e)
    rw [← hzc]
    have e2 : (olds ++ (Builtin.zeroCells zz2.cells k).toList ++ (Builtin.zeroCells zz2.cells (grownCap w (n + k) cap e - (n + k))).toList).toArray = olds.toArray ++ Builtin.zeroCells zz2.cells k ++ Builtin.zeroCells zz2.cells (grownCap w (n + k) cap e - (n + k)) := by
      apply Array.toList_inj.1; simp
    rw [e2]
    exact this
end

/-! ### own slices -/

theorem own_keep {w w' : World} {base : Nat} {e : TypeId} {size : Nat} {v : Value} {n : Nat} {xs : List Value} (h : w.ownsRow base e size v n xs) (x : Ext w w') : w'.ownsRow base e size v n xs := by
  refine ⟨h.1, ?_⟩
  rcases h.2 with hn | ⟨g, cap, cur, rfl, hb, hg, rest⟩
  · exact .inl hn
  · exact .inr ⟨g, cap, cur, rfl, hb, x.blk hg, rest⟩

theorem own_rw {w : World} {base : Nat} {e : TypeId} {size : Nat} {v : Value} {n : Nat} {xs : List Value} (h : w.ownsRow base e size v n xs) : Rw w.heap v n xs := by
  rcases h.2 with ⟨rfl, rfl⟩ | ⟨g, cap, cur, rfl, hb, hg, _, _, _, ht⟩
  · have : xs = [] := List.eq_nil_of_length_eq_zero (by simpa using h.1)
    subst this
    exact .nil _ _
  · refine Rw.ofBlk (rest := cur.toList.drop (n * size)) (t := e) (fz := (0, 0)) ?_
    rw [hg, ← ht, List.take_append_drop, Array.toArray_toList]

/-- what a slice of the call's own is, as a block, with its room -/
theorem own_cur {w : World} {base : Nat} {e : TypeId} {size : Nat} {v : Value} {n : Nat} {xs : List Value} (h : w.ownsRow base e size v n xs) (hn : 0 < n) :
    ∃ g cap rest, v = .slice (some ⟨g, 0, none⟩) n cap ∧ base ≤ g ∧ n ≤ cap ∧ w.heap[g]? = some (.cells (xs ++ rest).toArray e (0, 0)) ∧ xs.length + rest.length = cap * size := by
  rcases h.2 with ⟨rfl, rfl⟩ | ⟨g, cap, cur, rfl, hb, hg, hc, _, hs, ht⟩
  · omega
  · refine ⟨g, cap, cur.toList.drop (n * size), rfl, hb, hc, ?_, ?_⟩
    · rw [hg, ← ht, List.take_append_drop, Array.toArray_toList]
    · rw [← ht, ← List.length_append, List.take_append_drop, Array.length_toList, hs]

theorem cel_upd {w w' : World} {b : Nat} {ob : Obj} (u : Upd w w' b ob) {a : Addr} (h : a.block ≠ b) {v : Value} (hc : cel w.heap a = some v) : cel w'.heap a = some v := by
  unfold cel at *
  rw [u.2.2.1 _ h]; exact hc
theorem celsAt_upd {w w' : World} {b : Nat} {ob : Obj} (u : Upd w w' b ob) {g o : Nat} (h : g ≠ b) {cs : List Value} (hc : celsAt w.heap ⟨g, o, none⟩ cs) : celsAt w'.heap ⟨g, o, none⟩ cs := by
  intro j v hj
  have := hc j v hj
  rw [add_off] at this ⊢
  exact cel_upd u h this
theorem rw_upd {w w' : World} {b : Nat} {ob : Obj} (u : Upd w w' b ob) {v : Value} {n : Nat} {cs : List Value} (h : ∀ g, v.ownBlock = some g → g ≠ b) (hc : Rw w.heap v n cs) : Rw w'.heap v n cs := by
  cases hc with
  | nil a cap => exact .nil a cap
  | some g o cap _ _ hc => exact .some g o cap n cs (celsAt_upd u (h g rfl) hc)

/-- two rows in two blocks do not overlap -/
theorem overlaps_apart {P : Program} {tt : Nat → Option TI} (htt : ∀ t i, tt t = some i → tiOf P t = some i) {t tR : TypeId} {x1 y1 : Nat} {cc : Bool} {z : List Value} {e : TypeId} {esz : Nat} (ht : tt t = some ⟨x1, y1, cc, z, .slice e esz⟩)
    {w : World} {a b : Addr} {la ca lb cb : Nat} (hne : a.block ≠ b.block) {csA csB : List Value} {tA tB : TypeId} (hA : w.heap[a.block]? = some (.cells csA.toArray tA (0, 0))) (hB : w.heap[b.block]? = some (.cells csB.toArray tB (0, 0))) (hB0 : csB ≠ []) :
    (Extern.SlicesOverlaps.overlaps #[t, t] #[tR] #[.slice (some a) la ca, .slice (some b) lb cb]).run P w = .ok (.bool false) w := by
  obtain ⟨i1, d1, z1, o1⟩ := tiOf_spec (htt _ _ ht)
  obtain ⟨hd', hsz, he'⟩ := kind_slice o1.kind
  subst hd'
  refine Lib.run_overlaps_apart w t tR e o1.und esz (fun w => by rw [run_sz w he', hsz]) a b la ca lb cb hne tA tB csA.length csB.length ?_ ?_ ?_ ?_ ?_
  · simp [World.shape?, hA]
  · simp [World.shape?, hB]
  · intro h; exact hB0 (List.eq_nil_of_length_eq_zero h)
  · simp [World.frozen?, hA]
  · simp [World.frozen?, hA]

end Go.Pan

namespace Go.Proofs.Ytlpndcfkjkbeoaa
open Go Go.Pan

abbrev T_cells := T_sl_slots_cell_node_Node

/-! ### slots: things, All, kept -/

def thingV (c : Nat × Nat) : List Value := [I c.1, ptr c.2, .bool true]
theorem thingV_len (c : Nat × Nat) : (thingV c).length = 3 := rfl
theorem thingV_flat (c : Nat × Nat) : (thingV c).all flat = true := rfl
theorem thingV_cell {c : Nat × Option Nat} {p : Nat} (h : c.2 = some p) : cellV c = thingV (c.1, p) := by
  obtain ⟨a, o⟩ := c; simp only at h; subst h; rfl

theorem things_snoc {C : List (Nat × Option Nat)} {j : Nat} (hj : j < C.length) : thingsOf (C.take (j + 1)) = thingsOf (C.take j) ++ (match C[j].2 with | some p => [(C[j].1, p)] | none => []) := by
  rw [take_snoc C j hj, thingsOf_append]
  congr 1
  generalize C[j] = c
  obtain ⟨a, _ | p⟩ := c <;> rfl

theorem things_spec {b k : Nat} {m : List (Nat × Nat)} {w : World} (s : SlotsRep w.heap b k m) :
    CallK Try.prog F_slots_Slots_node_Node_things [ptr b] (fun r w' => Ext w w' ∧ w'.ownsRow w.heap.size T_cell 3 r m.length (m.flatMap thingV)) w := by
  obtain ⟨C, hc, e⟩ := s.cells
  have hlen := hc.len
  have hml := s.len
  obtain ⟨v, hb, hr⟩ := hc.blk
  obtain ⟨a, cap, rfl⟩ := hr.form
  refine e_slots_Slots_node_Node_things rfl ?_
  refine ⟨by decide, ldB hb rfl ?_⟩
  refine lp (fun s : Nat × Value => [(9, .slice a C.length cap), (10, I C.length), (11, I s.1), (3, s.2)])
    (fun s w' => Ext w w' ∧ s.1 ≤ C.length ∧ w'.ownsRow w.heap.size T_cell 3 s.2 (thingsOf (C.take s.1)).length ((thingsOf (C.take s.1)).flatMap thingV)) (fun s => C.length - s.1) (0, .slice none 0 0) ⟨rfl, rfl, rfl, rfl, trivial⟩ ⟨Ext.refl w, Nat.zero_le _, own_none _ _ _ _⟩ ?_
  rintro ⟨j, v⟩ e0 w1 ⟨hx, hj, hown⟩
  simp only at hj hown
  refine ts (fun g => ?_) (fun g => ?_)
  · have hj' : j < C.length := by simp only at g; omega
    have hsn := things_snoc hj'
    obtain ⟨cb, co, rfl, hcs⟩ := hr.place (by omega)
    refine ix rfl hj' ?_
    refine ldC (cs := cellV C[j]) ((hx.1.cels hcs).sub (flat_elem cellV_len C j hj')) rfl ?_
    refine al ?_
    intro cb' w2 hcb hx2 hsz2 hblk2
    refine st hblk2 rfl rfl (cellV_flat _) ?_
    intro w3 u3
    have hx3 : Ext w1 w3 := hx2.upd (by omega) u3
    have hb3 : w3.heap[cb']? = some (.cells (cellV C[j]).toArray T_cell (0, 0)) := u3.new
    refine ⟨by decide, ldB hb3 rfl ?_⟩
    cases hC : C[j].2 with
    | some p =>
      rw [hC] at hsn
      rw [thingV_cell hC] at hb3
      refine ldC (cs := thingV (C[j].1, p)) (celsAt_blk hb3 rfl) rfl ?_
      refine ⟨rfl, rfl, by decide, al ?_⟩
      intro nb w4 hnb hx4 hsz4 hblk4
      refine app tt_ok rfl rfl rfl rfl (by decide) rfl rfl (own_keep hown (hx3.trans hx4)) rfl (news := thingV (C[j].1, p)) rfl (celsAt_blk hblk4 rfl) (thingV_flat _) ?_ (by decide) ?_ ?_
      · have := things_len (C := C.take j)
        rw [List.length_take] at this
        omega
      · have := (hx.trans (hx3.trans hx4)).1.1; omega
      intro v' w5 ho hg hn
      have hx5 : Ext w w5 := (hx.trans (hx3.trans hx4)).grown hg (own_row hown)
      refine nm (inc64 (by omega)) ?_
      refine ⟨(j + 1, v'), ⟨⟨rfl, rfl, rfl, rfl, trivial⟩, hx5, hj', ?_⟩, by simp only; omega⟩
      rw [hsn]
      simp only [List.length_append, List.length_singleton, List.flatMap_append, List.flatMap_singleton]
      exact ho
    | none =>
      rw [hC] at hsn
      refine nm (inc64 (by omega)) ?_
      refine ⟨(j + 1, v), ⟨⟨rfl, rfl, rfl, rfl, trivial⟩, hx.trans hx3, hj', ?_⟩, by simp only; omega⟩
      rw [hsn]
      simp only [List.append_nil]
      exact own_keep hown hx3
  · have hj' : j = C.length := by simp only at g; omega
    subst hj'
    rw [List.take_length, e] at hown
    exact ⟨hx, hown⟩

theorem all_spec {b k : Nat} {m : List (Nat × Nat)} {w : World} (s : SlotsRep w.heap b k m) :
    CallK Try.prog F_slots_Slots_node_Node_All [ptr b] (fun r w' => Ext w w' ∧ Rw w'.heap r m.length (m.map fun c => ptr c.2) ∧ ∀ g, r.ownBlock = some g → w.heap.size ≤ g) w := by
  have hml := s.len
  refine e_slots_Slots_node_Node_All rfl ?_
  refine cl (things_spec s) ?_
  rintro v0 w0 ⟨hx0, hown0⟩
  have hr := own_rw hown0
  obtain ⟨a, cap, rfl⟩ := hr.form
  refine lp (fun s : Nat × Value => [(9, .slice a m.length cap), (10, I m.length), (11, I s.1), (3, s.2)])
    (fun s w' => Ext w0 w' ∧ s.1 ≤ m.length ∧ w'.ownsRow w0.heap.size T_p_node_Node 1 s.2 s.1 ((m.take s.1).map fun c => ptr c.2)) (fun s => m.length - s.1) (0, .slice none 0 0) ⟨rfl, rfl, rfl, rfl, trivial⟩ ⟨Ext.refl w0, Nat.zero_le _, own_none _ _ _ _⟩ ?_
  rintro ⟨j, v⟩ e0 w1 ⟨hx, hj, hown⟩
  simp only at hj hown
  refine ts (fun g => ?_) (fun g => ?_)
  · have hj' : j < m.length := by simp only at g; omega
    obtain ⟨cb, co, rfl, hcs⟩ := hr.place (by omega)
    refine ix rfl hj' ?_
    refine ldC (cs := thingV m[j]) ((hx.1.cels hcs).sub (flat_elem thingV_len m j hj')) rfl ?_
    refine al ?_
    intro cb' w2 hcb hx2 hsz2 hblk2
    refine st hblk2 rfl rfl (thingV_flat _) ?_
    intro w3 u3
    have hx3 : Ext w1 w3 := hx2.upd (by omega) u3
    have hb3 : w3.heap[cb']? = some (.cells (thingV m[j]).toArray T_cell (0, 0)) := u3.new
    refine ⟨by decide, ldB hb3 rfl ?_⟩
    refine ⟨rfl, rfl, by decide, al ?_⟩
    intro nb w4 hnb hx4 hsz4 hblk4
    refine app tt_ok rfl rfl rfl rfl (by decide) rfl rfl (own_keep hown (hx3.trans hx4)) rfl (news := [ptr m[j].2]) rfl (celsAt_blk hblk4 rfl) rfl (by omega) (by decide) ?_ ?_
    · have := (hx.trans (hx3.trans hx4)).1.1; omega
    intro v' w5 ho hg hn
    have hx5 : Ext w0 w5 := (hx.trans (hx3.trans hx4)).grown hg (own_row hown)
    refine nm (inc64 (by omega)) ?_
    refine ⟨(j + 1, v'), ⟨⟨rfl, rfl, rfl, rfl, trivial⟩, hx5, hj', ?_⟩, by simp only; omega⟩
    simp only
    rw [take_snoc m j hj', List.map_append]
    exact ho
  · have hj' : j = m.length := by simp only at g; omega
    subst hj'
    rw [List.take_length] at hown
    exact ⟨hx0.trans hx, own_rw hown, fun g hg => Nat.le_trans hx0.1.1 (own_row hown g hg)⟩

theorem thingsOf_some : ∀ m : List (Nat × Nat), thingsOf (m.map fun c => (c.1, some c.2)) = m
  | [] => rfl
  | c :: m => by
    have := thingsOf_some m
    show (c.1, c.2) :: thingsOf (m.map fun c => (c.1, some c.2)) = _
    rw [this]

/-- rising lists with the same members are the same -/
theorem rising_ext {α : Type} : ∀ {l m : List (Nat × α)}, Rising l → Rising m → (∀ x, x ∈ l ↔ x ∈ m) → l = m
  | [], [], _, _, _ => rfl
  | [], y :: m, _, _, h => by have := (h y).2 (by simp); simp at this
  | x :: l, [], _, _, h => by have := (h x).1 (by simp); simp at this
  | x :: l, y :: m, hl, hm, h => by
    obtain ⟨h1, h2⟩ := List.pairwise_cons.1 hl
    obtain ⟨h3, h4⟩ := List.pairwise_cons.1 hm
    have e : x = y := by
      rcases List.mem_cons.1 ((h x).1 (by simp)) with g | g
      · exact g
      · rcases List.mem_cons.1 ((h y).2 (by simp)) with g2 | g2
        · exact g2.symm
        · have := h1 y g2; have := h3 x g; omega
    subst e
    congr 1
    refine rising_ext h2 h4 fun z => ⟨fun hz => ?_, fun hz => ?_⟩
    · rcases List.mem_cons.1 ((h z).1 (by simp [hz])) with g | g
      · subst g; exact absurd (h1 z hz) (Nat.lt_irrefl _)
      · exact g
    · rcases List.mem_cons.1 ((h z).2 (by simp [hz])) with g | g
      · subst g; exact absurd (h3 z hz) (Nat.lt_irrefl _)
      · exact g

theorem kept_spec {k : Nat} {v : Value} {m : List (Nat × Nat)} {w : World} (hr : Rw w.heap v m.length (m.flatMap thingV)) (hrise : Rising m) (hsm : ∀ c ∈ m, c.1 < 2 ^ k) (h1 : 1 ≤ k) (h2 : k ≤ 16) :
    CallK Try.prog F_slots_kept_node_Node [I k, v] (fun r w' => Ext w w' ∧ ∃ b, r = ptr b ∧ SlotsRep w'.heap b k m) w := by
  have hp : 2 ^ k ≤ 2 ^ 16 := Nat.pow_le_pow_right (by decide) h2
  have hml : m.length ≤ 65536 := by have := rising_len hrise hsm; omega
  obtain ⟨a, cap, rfl⟩ := hr.form
  have asC : m.flatMap thingV = (m.map fun c => (c.1, some c.2)).flatMap cellV := by rw [List.flatMap_map]; rfl
  refine e_slots_kept_node_Node rfl ?_
  refine al ?_
  intro b w1 hb hx hsz hblk
  have hblk1 : w1.heap[b]? = some (.cells #[I k, I m.length, .slice a m.length cap] T_slots (0, 0)) := hblk
  refine cl (dense_spec h2 hml _) ?_
  rintro _ _ ⟨rfl, rfl⟩
  cases hd : decide (k ≤ 6 ∧ 2 ^ k < 2 * m.length) with
  | false =>
    refine ⟨hx, b, rfl, ⟨m.map fun c => (c.1, some c.2), ⟨⟨_, hblk1, ?_⟩, ?_, ?_, h1, h2⟩, ?_⟩⟩
    · rw [List.length_map, ← asC]; exact hr.ext hx.1
    · exact List.pairwise_map.2 hrise
    · intro c hc
      obtain ⟨d, hd, rfl⟩ := List.mem_map.1 hc
      exact hsm d hd
    · exact thingsOf_some m
  | true =>
    refine ⟨by omega, nm (v := ((2 ^ k : Nat) : Int)) ?_ ?_⟩
    · have := shl_i64 (a := 1) (n := k) (by omega) (by omega)
      rw [Nat.one_mul] at this
      exact this
    have hk6 : k ≤ 6 := (of_decide_eq_true hd).1
    have hp6 : 2 ^ k ≤ 2 ^ 6 := Nat.pow_le_pow_right (by decide) hk6
    refine mk tt_ok rfl rfl rfl (by decide) rfl rfl rfl (Nat.le_trans (Nat.mul_le_mul_left _ hp6) (by decide)) (by omega) ?_
    intro cb w2 hcb hx2 hsz2 hblk2
    refine ⟨by decide, ?_⟩
    refine st (hx2.blk hblk1) rfl rfl rfl ?_
    intro w3 u3
    have hb3 : w3.heap[b]? = some (.cells #[I k, I m.length, .slice (some ⟨cb, 0, none⟩) (2 ^ k) (2 ^ k)] T_slots (0, 0)) := u3.new
    have hx3 : Ext w w3 := (hx.trans hx2).upd (show w.heap.size ≤ b by omega) u3
    have hz : (List.replicate (2 ^ k) ([I 0, nilp, .bool false] : List Value)).flatten = ((List.range 0).map (fun i => (i, (none : Option Nat))) ++ List.replicate (2 ^ k - 0) (0, none)).flatMap cellV := by
      rw [List.range_zero, List.map_nil, List.nil_append, Nat.sub_zero]
      generalize 2 ^ k = n
      induction n with
      | zero => rfl
      | succ n ih => rw [List.replicate_succ, List.replicate_succ, List.flatten_cons, List.flatMap_cons, ih]; rfl
    have hcb3 : w3.heap[cb]? = some (.cells (((List.range 0).map (fun i => (i, (none : Option Nat))) ++ List.replicate (2 ^ k - 0) (0, none)).flatMap cellV).toArray T_cell (0, 0)) := by
      rw [← hz]; exact u3.old (show cb ≠ b by omega) hblk2
    have hcbb : cb ≠ b := by omega
    have hwcb : w.heap.size ≤ cb := by omega
    refine ⟨by decide, ldB hb3 rfl ?_⟩
    -- the addresses
    refine lp (fun j : Nat => [(0, I k), (1, .slice a m.length cap), (5, ptr b), (31, I (2 ^ k : Nat)), (32, I j)])
      (fun j w' => Ext w w' ∧ j ≤ 2 ^ k ∧ w'.heap[b]? = some (.cells #[I k, I m.length, .slice (some ⟨cb, 0, none⟩) (2 ^ k) (2 ^ k)] T_slots (0, 0)) ∧
        w'.heap[cb]? = some (.cells (((List.range j).map (fun i => (i, (none : Option Nat))) ++ List.replicate (2 ^ k - j) (0, none)).flatMap cellV).toArray T_cell (0, 0))) (fun j => 2 ^ k - j) 0 ⟨rfl, rfl, rfl, rfl, rfl, trivial⟩ ⟨hx3, Nat.zero_le _, hb3, hcb3⟩ ?_
    rintro j e0 w4 ⟨hx4, hj, hb4, hcb4⟩
    refine ts (fun g => ?_) (fun g => ?_)
    · have hj' : j < 2 ^ k := by omega
      refine ⟨by decide, ldB hb4 rfl ?_⟩
      refine ix rfl hj' ?_
      refine ⟨by decide, ?_⟩
      have hlen : ((List.range j).map (fun i => (i, (none : Option Nat))) ++ List.replicate (2 ^ k - j) (0, none)).length = 2 ^ k := by simp; omega
      have hjl : j < ((List.range j).map (fun i => (i, (none : Option Nat))) ++ List.replicate (2 ^ k - j) (0, none)).length := by omega
      refine st hcb4 rfl (Nat.ble_eq_true_of_le ?_) rfl ?_
      · show 0 + j * 3 + 0 + 1 ≤ _
        rw [flat_len cellV_len, hlen]; omega
      intro w5 u5
      have hcb5 : w5.heap[cb]? = some (.cells (setL (((List.range j).map (fun i => (i, (none : Option Nat))) ++ List.replicate (2 ^ k - j) (0, none)).flatMap cellV) (0 + j * 3 + 0) [I j]).toArray T_cell (0, 0)) := u5.new
      have hget : ((List.range j).map (fun i => (i, (none : Option Nat))) ++ List.replicate (2 ^ k - j) (0, none))[j]'hjl = (0, none) := by
        rw [List.getElem_append_right (by simp)]
        simp
      have hset : ((List.range j).map (fun i => (i, (none : Option Nat))) ++ List.replicate (2 ^ k - j) (0, none)).set j (j, none) = (List.range (j + 1)).map (fun i => (i, (none : Option Nat))) ++ List.replicate (2 ^ k - (j + 1)) (0, none) := by
        rw [List.set_append_right _ _ (by simp), List.length_map, List.length_range, Nat.sub_self]
        obtain ⟨n, hn⟩ : ∃ n, 2 ^ k - j = n + 1 := ⟨2 ^ k - (j + 1), by omega⟩
        rw [hn, List.replicate_succ, List.set_cons_zero, List.range_succ, List.map_append, show 2 ^ k - (j + 1) = n from by omega]
        simp
      rw [Nat.zero_add, flat_set_part cellV_len _ j hjl 0 [I j] (j, none) (by simp) (by rw [hget]; rfl), hset] at hcb5
      refine nm (inc64 (by omega)) ?_
      exact ⟨j + 1, ⟨⟨rfl, rfl, rfl, rfl, rfl, trivial⟩, hx4.upd hwcb u5, hj', u5.old (Ne.symm hcbb) hb4, hcb5⟩, by omega⟩
    · have hj' : j = 2 ^ k := by omega
      subst hj'
      rw [Nat.sub_self, List.replicate_zero, List.append_nil] at hcb4
      -- the things
      refine lp (fun j : Nat => [(5, ptr b), (44, .slice a m.length cap), (45, I m.length), (46, I j)])
        (fun j w' => Ext w w' ∧ j ≤ m.length ∧ w'.heap[b]? = some (.cells #[I k, I m.length, .slice (some ⟨cb, 0, none⟩) (2 ^ k) (2 ^ k)] T_slots (0, 0)) ∧
          ∃ D : List (Nat × Option Nat), w'.heap[cb]? = some (.cells (D.flatMap cellV).toArray T_cell (0, 0)) ∧ D.length = 2 ^ k ∧ (∀ i (h : i < D.length), D[i].1 = i) ∧ ∀ i (h : i < D.length) p, D[i].2 = some p ↔ (i, p) ∈ m.take j) (fun j => m.length - j) 0 ⟨rfl, rfl, rfl, rfl, trivial⟩
        ⟨hx4, Nat.zero_le _, hb4, _, hcb4, by simp, fun i h => by simp, fun i h p => by simp⟩ ?_
      rintro j e1 w5 ⟨hx5, hj, hb5, D, hD, hDl, hDa, hDp⟩
      refine ts (fun g2 => ?_) (fun g2 => ?_)
      · have hj' : j < m.length := by omega
        obtain ⟨sb, so, rfl, hcs⟩ := hr.place (by omega)
        refine ix rfl hj' ?_
        refine ldC (cs := thingV m[j]) ((hx5.1.cels hcs).sub (flat_elem thingV_len m j hj')) rfl ?_
        refine al ?_
        intro nb w6 hnb hx6 hsz6 hblk6
        refine st hblk6 rfl rfl (thingV_flat _) ?_
        intro w7 u7
        have hx7 : Ext w5 w7 := hx6.upd (by omega) u7
        have hb7 : w7.heap[nb]? = some (.cells (thingV m[j]).toArray T_cell (0, 0)) := u7.new
        have ha : m[j].1 < 2 ^ k := hsm _ (List.getElem_mem hj')
        refine ⟨by decide, ldB (hx7.blk hb5) rfl ?_⟩
        refine ⟨by decide, ldB hb7 rfl ?_⟩
        refine ldC (cs := thingV m[j]) (celsAt_blk hb7 rfl) rfl ?_
        refine ix rfl ha ?_
        refine st (hx7.blk hD) rfl (Nat.ble_eq_true_of_le ?_) (thingV_flat _) ?_
        · show 0 + m[j].1 * 3 + 3 ≤ _
          rw [flat_len cellV_len, hDl]; omega
        intro w8 u8
        have hD8 : w8.heap[cb]? = some (.cells (setL (D.flatMap cellV) (0 + m[j].1 * 3) (cellV (m[j].1, some m[j].2))).toArray T_cell (0, 0)) := u8.new
        rw [Nat.zero_add, flat_set cellV_len D m[j].1 (by omega)] at hD8
        refine nm (inc64 (by omega)) ?_
        refine ⟨j + 1, ⟨⟨rfl, rfl, rfl, rfl, trivial⟩, (hx5.trans hx7).upd hwcb u8, hj', u8.old (Ne.symm hcbb) (hx7.blk hb5), _, hD8, by simp [hDl], fun i h => ?_, fun i h p => ?_⟩, by omega⟩
        · rw [List.length_set] at h
          rw [List.getElem_set]
          split
          · rename_i e; exact e
          · exact hDa i h
        · rw [List.length_set] at h
          rw [List.getElem_set, take_snoc m j hj', List.mem_append, List.mem_singleton]
          split
          · rename_i e
            subst e
            simp only [Option.some.injEq]
            constructor
            · intro e; right; rw [← e]
            · rintro (g3 | g3)
              · have hm1 : (m[j].1, p) ∈ m := List.mem_of_mem_take g3
                exact rising_inj hrise (List.getElem_mem hj') hm1
              · exact (congrArg Prod.snd g3).symm
          · rename_i ne
            rw [hDp i h]
            constructor
            · exact fun g3 => .inl g3
            · rintro (g3 | g3)
              · exact g3
              · exact absurd (congrArg Prod.fst g3).symm ne
      · have hj' : j = m.length := by omega
        subst hj'
        have hDr : Rising D := by
          refine List.pairwise_iff_getElem.2 fun i j hi hj hij => ?_
          rw [hDa i hi, hDa j hj]; exact hij
        refine ⟨hx5, b, rfl, ⟨D, ⟨⟨_, hb5, ?_⟩, hDr, ?_, h1, h2⟩, ?_⟩⟩
        · rw [hDl]; exact Rw.ofBlk' hD
        · intro c hc
          obtain ⟨i, hi, rfl⟩ := List.getElem_of_mem hc
          rw [hDa i hi]; omega
        · refine rising_ext (things_rising hDr) hrise ?_
          rintro ⟨i, p⟩
          rw [mem_things]
          rw [List.take_length] at hDp
          constructor
          · intro h
            obtain ⟨q, hq, eq⟩ := List.getElem_of_mem h
            have := hDa q hq
            rw [eq] at this
            simp only at this
            subst this
            exact (hDp _ hq p).1 (by rw [eq])
          · intro h
            have hi : i < D.length := by rw [hDl]; exact hsm _ h
            have := (hDp i hi p).2 h
            have e2 : D[i] = (i, some p) := Prod.ext (hDa i hi) this
            rw [← e2]; exact List.getElem_mem hi

end Go.Proofs.Ytlpndcfkjkbeoaa

namespace Go.Proofs.Ytlpndcfkjkbeoaa
open Go Go.Pan

/-! ### slots: Put, Del -/

theorem put1_spec {c : Nat × Nat} (hc : c.1 ≤ 65536) {addr : Nat} (ha : addr ≤ 65536) (w : World) :
    CallK Try.prog F_slots_Slots_node_Node_Put_1 [.agg (thingV c).toArray, I addr] (fun r w' => Ext w w' ∧ r = I ((c.1 : Int) - addr)) w := by
  refine e_slots_Slots_node_Node_Put_1 rfl ?_
  refine al ?_
  intro b w1 hb hx hsz hblk
  have hb1 : w1.heap[b]? = some (.cells (thingV c).toArray T_cell (0, 0)) := hblk
  refine ⟨by decide, ldB hb1 rfl ?_⟩
  refine nm (v := (c.1 : Int) - addr) (wr64 rfl (by omega) (by omega)) ?_
  exact ⟨hx, rfl⟩

theorem bin_spec {v : Value} {m : List (Nat × Nat)} {w : World} (hr : Rw w.heap v m.length (m.flatMap thingV)) (hrise : Rising m) (hsm : ∀ c ∈ m, c.1 ≤ 65536) (hl : m.length ≤ 65536) {addr : Nat} (ha : addr ≤ 65536) :
    CallK Try.prog F_slices_BinarySearchFunc_sl_slots_cell_node_Node_slots_cell_node_Node_int [v, I addr, .func (.func F_slots_Slots_node_Node_Put_1) #[] #[]]
      (fun r w' => Ext w w' ∧ ∃ (i : Nat) (ok : Bool), r = .tuple #[I i, .bool ok] ∧ FromAt m addr i ∧ (ok = true ↔ ∃ h : i < m.length, m[i].1 = addr)) w := by
  obtain ⟨a, cap, rfl⟩ := hr.form
  refine e_slices_BinarySearchFunc_sl_slots_cell_node_Node_slots_cell_node_Node_int rfl ?_
  refine lp (fun s : Nat × Nat => [(0, .slice a m.length cap), (1, I addr), (2, .func (.func F_slots_Slots_node_Node_Put_1) #[] #[]), (8, I m.length), (9, I s.1), (10, I s.2)])
    (fun s w' => Ext w w' ∧ s.1 ≤ s.2 ∧ s.2 ≤ m.length ∧ (∀ i (h : i < m.length), i < s.1 → m[i].1 < addr) ∧ (∀ i (h : i < m.length), s.2 ≤ i → addr ≤ m[i].1)) (fun s => s.2 - s.1) (0, m.length) ⟨rfl, rfl, rfl, rfl, rfl, rfl, trivial⟩
    ⟨Ext.refl w, by simp, by simp, fun i _ h => absurd h (Nat.not_lt_zero _), fun i h g => absurd h (Nat.not_lt.2 g)⟩ ?_
  rintro ⟨lo, hi⟩ e w1 ⟨hx, h1, h2, hlo, hhi⟩
  simp only at h1 h2 hlo hhi
  refine ts (fun g => ?_) (fun g => ?_)
  · simp only at g
    refine nm (v := ((lo + hi : Nat) : Int)) (wr64 (by simp) (by omega) (by omega)) ?_
    refine nm (v := ((lo + hi : Nat) : Int)) (wru64 rfl (by omega) (by omega)) ?_
    refine ⟨by decide, nm (shr_nat (lo + hi) 1 64 (by omega)) ?_⟩
    refine nm (v := (((lo + hi) / 2 : Nat) : Int)) (wr64 (by simp) (by omega) (by omega)) ?_
    generalize hq : (lo + hi) / 2 = q
    have hqm : q < m.length := by omega
    obtain ⟨cb, co, rfl, hcs⟩ := hr.place (by omega)
    refine ix rfl hqm ?_
    refine ldC (cs := thingV m[q]) ((hx.1.cels hcs).sub (flat_elem thingV_len m q hqm)) rfl ?_
    refine cl (put1_spec (hsm _ (List.getElem_mem hqm)) ha _) ?_
    rintro _ w2 ⟨hx2, rfl⟩
    refine ts (fun g2 => ?_) (fun g2 => ?_)
    · refine nm (inc64 (by omega)) ?_
      refine ⟨(q + 1, hi), ⟨⟨rfl, rfl, rfl, rfl, rfl, rfl, trivial⟩, hx.trans hx2, by simp only; omega, h2, fun i h g3 => ?_, hhi⟩, by simp only; omega⟩
      have := hrise.at_le (show i ≤ q by simp only at g3; omega) hqm
      omega
    · refine ⟨(lo, q), ⟨⟨rfl, rfl, rfl, rfl, rfl, rfl, trivial⟩, hx.trans hx2, by simp only; omega, by simp only; omega, hlo, fun i h g3 => ?_⟩, by simp only; omega⟩
      have := hrise.at_le (show q ≤ i from g3) h
      omega
  · have : lo = hi := by simp only at g; omega
    subst this
    have hf : FromAt m addr lo := ⟨h2, fun j h g => by have := hlo j h g; omega, fun j h g => by have := hhi j h g; omega⟩
    refine ts (fun g2 => ?_) (fun g2 => ?_)
    · have hlm : lo < m.length := by simp only at g2; omega
      obtain ⟨cb, co, rfl, hcs⟩ := hr.place (by omega)
      refine ix rfl hlm ?_
      refine ldC (cs := thingV m[lo]) ((hx.1.cels hcs).sub (flat_elem thingV_len m lo hlm)) rfl ?_
      refine cl (put1_spec (hsm _ (List.getElem_mem hlm)) ha _) ?_
      rintro _ w2 ⟨hx2, rfl⟩
      refine ts (fun g3 => ?_) (fun g3 => ?_)
      · exact ⟨hx.trans hx2, lo, true, rfl, hf, ⟨fun _ => ⟨hlm, by omega⟩, fun _ => rfl⟩⟩
      · exact ⟨hx.trans hx2, lo, false, rfl, hf, ⟨fun h => (by cases h), fun ⟨_, h⟩ => absurd h (by omega)⟩⟩
    · have hlm : ¬ lo < m.length := by simp only at g2; omega
      exact ⟨hx, lo, false, rfl, hf, ⟨fun h => (by cases h), fun ⟨h, _⟩ => absurd h hlm⟩⟩

theorem over_spec {w : World} {a b : Addr} {la ca lb cb : Nat} (hne : a.block ≠ b.block) {csA csB : List Value} {tA tB : TypeId} (hA : w.heap[a.block]? = some (.cells csA.toArray tA (0, 0))) (hB : w.heap[b.block]? = some (.cells csB.toArray tB (0, 0))) (hB0 : csB ≠ []) :
    CallK Try.prog F_slices_overlaps_slots_cell_node_Node [.slice (some a) la ca, .slice (some b) lb cb] (fun r w' => w = w' ∧ r = .bool false) w := by
  refine ⟨.inr ⟨.bool false, w, ?_, rfl, rfl⟩⟩
  rw [run_callFunc_extern fn_slices_overlaps_slots_cell_node_Node (by kernel_rfl) (by kernel_rfl) (by kernel_rfl) (e := Extern.SlicesOverlaps.overlaps #[T_cells, T_cells] #[T_bool]) (by kernel_rfl)]
  have := overlaps_apart (P := Try.prog) (tt := tt) (t := T_cells) (tR := T_bool) tt_ok rfl (la := la) (ca := ca) (lb := lb) (cb := cb) hne hA hB hB0
  rw [show (([.slice (some a) la ca, .slice (some b) lb cb] : List Value).toArray) = #[.slice (some a) la ca, .slice (some b) lb cb] from rfl, this]
  rfl

/-- a slice of a slice from i on -/
theorem sub_slice {b n cap i esz : Nat} (h : i < cap) : (Value.slice (if cap = (i : Int).toNat then some ⟨b, 0, none⟩ else (some (⟨b, 0, none⟩ : Addr)).map (·.add ((i : Int).toNat * esz))) (n - (i : Int).toNat) (cap - (i : Int).toNat)) = .slice (some ⟨b, i * esz, none⟩) (n - i) (cap - i) := by
  rw [Int.toNat_natCast, if_neg (by omega), Option.map_some, add_off, Nat.zero_add]
/-- a slice of a slice up to i -/
theorem up_slice {b n cap esz : Nat} : (Value.slice (if cap = 0 then some ⟨b, 0, none⟩ else (some (⟨b, 0, none⟩ : Addr)).map (·.add (0 * esz))) (n - 0) (cap - 0)) = .slice (some ⟨b, 0, none⟩) n cap := by
  split
  · rfl
  · rw [Option.map_some, add_off, Nat.zero_mul]; rfl

theorem up_slice' {b cap i esz : Nat} : (Value.slice (if cap = 0 then some ⟨b, 0, none⟩ else (some (⟨b, 0, none⟩ : Addr)).map (·.add (0 * esz))) ((i : Int).toNat - 0) (cap - 0)) = .slice (some ⟨b, 0, none⟩) i cap := up_slice

theorem setL_mid {A B C cs : List Value} {o : Nat} (ho : A.length = o) (h : B.length = cs.length) : setL (A ++ B ++ C) o cs = A ++ cs ++ C := by
  subst ho
  have h1 : (A ++ B ++ C).take A.length = A := by rw [List.append_assoc]; exact List.take_left
  have h2 : (A ++ B ++ C).drop (A.length + cs.length) = C := by rw [← h, ← List.length_append]; exact List.drop_left
  unfold setL
  rw [h1, h2]

theorem ins_new {A Z R cell D : List Value} {o q : Nat} (ho : A.length = o) (hc : cell.length = 3) (hq : q = o + 3) (hz : Z.length = 3 + D.length) : setL (setL (A ++ Z ++ R) o cell) q D = (A ++ cell ++ D) ++ R := by
  have e : A ++ Z ++ R = A ++ Z.take 3 ++ (Z.drop 3 ++ R) := by
    conv => lhs; rw [← List.take_append_drop 3 Z]
    simp only [List.append_assoc]
  rw [e, setL_mid ho (by rw [List.length_take]; omega), ← List.append_assoc, setL_mid (by rw [List.length_append]; omega) (by rw [List.length_drop]; omega)]

theorem ins_old {A D R cell : List Value} {o q : Nat} (ho : A.length = o) (hc : cell.length = 3) (hq : q = o + 3) (hd : 3 ≤ D.length) (hr : 3 ≤ R.length) : setL (setL (A ++ D ++ R) q D) o cell = (A ++ cell ++ D) ++ R.drop 3 := by
  have e : A ++ D ++ R = (A ++ D.take 3) ++ (D.drop 3 ++ R.take 3) ++ R.drop 3 := by
    conv => lhs; rw [← List.take_append_drop 3 D, ← List.take_append_drop 3 R]
    simp only [List.append_assoc]
  rw [e, setL_mid (by rw [List.length_append, List.length_take]; omega) (by rw [List.length_append, List.length_drop, List.length_take]; omega)]
  rw [List.append_assoc (A ++ D.take 3), setL_mid ho (by rw [List.length_take]; omega)]
  simp

end Go.Proofs.Ytlpndcfkjkbeoaa

namespace Go.Proofs.Ytlpndcfkjkbeoaa
open Go Go.Pan

set_option maxHeartbeats 1000000 in
theorem insert_spec {w0 w : World} (hx : Ext w0 w) {v : Value} {n i : Nat} {xs : List Value} (hown : w.ownsRow w0.heap.size T_cell 3 v n xs) (hn : n ≤ 65536) (hi : i ≤ n)
    {vb : Nat} {cell : List Value} (hvb : w.heap[vb]? = some (.cells cell.toArray T_cell (0, 0))) (hcl : cell.length = 3) (hcf : cell.all flat = true) (hxf : xs.all flat = true) (hne : ∀ g, v.ownBlock = some g → g ≠ vb) :
    CallK Try.prog F_slices_Insert_sl_slots_cell_node_Node_slots_cell_node_Node [v, I i, .slice (some ⟨vb, 0, none⟩) 1 1]
      (fun r w' => Ext w0 w' ∧ Rw w'.heap r (n + 1) (xs.take (i * 3) ++ cell ++ xs.drop (i * 3))) w := by
  have hxl : xs.length = n * 3 := hown.1
  have hb0 := hx.1.1
  refine e_slices_Insert_sl_slots_cell_node_Node_slots_cell_node_Node rfl ?_
  rcases Nat.eq_or_lt_of_le hi with heq | hlt
  · -- behind the last one
    subst heq
    have fin : ∀ (v' : Value) (w' : World), w'.ownsRow w0.heap.size T_cell 3 v' (i + 1) (xs ++ cell) → w.grownBy w' v.ownBlock → Ext w0 w' ∧ Rw w'.heap v' (i + 1) (xs.take (i * 3) ++ cell ++ xs.drop (i * 3)) := fun v' w' ho hg => by
      rw [List.take_of_length_le (by omega), List.drop_eq_nil_of_le (by omega), List.append_nil]
      exact ⟨hx.grown hg (own_row hown), own_rw ho⟩
    have hr := own_rw hown
    obtain ⟨a, cap, rfl⟩ := hr.form
    refine ⟨by omega, by omega, _, rfl, ?_⟩
    refine tsF (by decide) ?_
    refine tsT rfl ?_
    refine app tt_ok rfl rfl rfl rfl (by decide) rfl rfl hown rfl (news := cell) (by omega) (celsAt_blk hvb (by rw [List.drop_zero, List.take_length])) hcf (by omega) (by decide) hb0 ?_
    intro v' w' ho hg _
    exact fin v' w' ho hg
  · obtain ⟨g, cap, rest, rfl, hgb, hnc, hg, hsz⟩ := own_cur hown (by omega)
    have hgv : g ≠ vb := hne g rfl
    have hrl : rest.length = (cap - n) * 3 := by
      have : cap * 3 = n * 3 + (cap - n) * 3 := by rw [← Nat.add_mul]; congr 1; omega
      omega
    refine ⟨by omega, by omega, _, rfl, ?_⟩
    refine tsF (by decide) ?_
    refine tsF (by omega) ?_
    refine nm (v := ((n + 1 : Nat) : Int)) (wr64 (by simp) (by omega) (by omega)) ?_
    refine capK tt_ok rfl rfl rfl ?_
    refine ts (fun g1 => ?_) (fun g1 => ?_)
    · -- no room: a new row
      refine ⟨by omega, by omega, _, up_slice', ?_⟩
      refine nm (v := ((n + 1 : Nat) : Int)) (wr64 (by simp) (by omega) (by omega)) ?_
      refine nm (v := ((n + 1 - i : Nat) : Int)) (wr64 (by omega) (by omega) (by omega)) ?_
      refine apz tt_ok rfl rfl rfl rfl (by decide) rfl rfl rfl (olds := xs.take (i * 3)) (celsAt_blk hg ?_) ?_ (by omega) (by omega) (by omega) (by decide) ?_
      · rw [List.drop_zero, List.length_take, Nat.min_eq_left (by omega), List.take_append_of_le_length (by omega)]
      · show _ = i * 3; rw [List.length_take]; omega
      intro b' w1 cap' rest' hb' hcap' hx1 hblk1
      rw [show i + (n + 1 - i) = n + 1 from by omega]
      refine ⟨by omega, by omega, _, sub_slice (by omega), ?_⟩
      have hzl := zeros_len (zero := [I 0, nilp, .bool false]) (n + 1 - i)
      refine cpy tt_ok rfl rfl rfl rfl hblk1 (n := 1) (by omega) (cs := cell) (by omega) (hx1.1.cels (celsAt_blk hvb (by rw [List.drop_zero, List.take_length]))) ?_ hcf ?_
      · rw [List.length_append, List.length_append, List.length_take]
        have : (List.replicate (n + 1 - i) ([I 0, nilp, .bool false] : List Value)).flatten.length = (n + 1 - i) * 3 := hzl
        show i * 3 + cell.length ≤ _ + (List.replicate (n + 1 - i) ([I 0, nilp, .bool false] : List Value)).flatten.length + _
        omega
      intro w2 u2
      refine nm (v := ((i + 1 : Nat) : Int)) (wr64 (by simp) (by omega) (by omega)) ?_
      refine ⟨by omega, by omega, _, sub_slice (by omega), ?_⟩
      refine ⟨by omega, by omega, _, sub_slice (by omega), ?_⟩
      have hgb' : g ≠ b' := by have := lt_of_blk hg; omega
      have hg2 : w2.heap[g]? = some (.cells (xs ++ rest).toArray T_cell (0, 0)) := u2.old hgb' (hx1.blk hg)
      have hx2 : Ext w0 w2 := (hx.trans hx1).upd (show w0.heap.size ≤ b' by omega) u2
      have hb2 : w2.heap[b']? = some (.cells (setL (xs.take (i * 3) ++ (List.replicate (n + 1 - i) ([I 0, nilp, .bool false] : List Value)).flatten ++ rest') (i * 3) cell).toArray T_cell (0, 0)) := u2.new
      have hdl : (xs.drop (i * 3)).length = (n - i) * 3 := by rw [List.length_drop, Nat.sub_mul]; omega
      have htl : (xs.take (i * 3)).length = i * 3 := by rw [List.length_take]; omega
      refine cpy tt_ok rfl rfl rfl rfl (w := drw w2) hb2 (n := n - i) (by omega) (cs := xs.drop (i * 3)) hdl (celsAt_blk hg2 ?_) ?_ ?_ ?_
      · rw [List.drop_append_of_le_length (by omega), List.take_left]
      · rw [setL_length _ _ _ (by rw [List.length_append, List.length_append, htl, hzl]; show _ ≤ _ + (n + 1 - i) * 3 + _; omega), List.length_append, List.length_append, htl, hzl, hdl]
        show _ ≤ _ + (n + 1 - i) * 3 + _
        rw [Nat.sub_mul, Nat.sub_mul, Nat.add_mul, Nat.add_mul]
        omega
      · exact List.all_eq_true.2 fun x hx => List.all_eq_true.1 hxf x (List.mem_of_mem_drop hx)
      intro w3 u3
      have hx3 : Ext w0 w3 := (hx2.trans (Ext.drw w2)).upd (show w0.heap.size ≤ b' by omega) u3
      have hb3 : w3.heap[b']? = some (.cells (setL (setL (xs.take (i * 3) ++ (List.replicate (n + 1 - i) ([I 0, nilp, .bool false] : List Value)).flatten ++ rest') (i * 3) cell) ((i + 1) * 3) (xs.drop (i * 3))).toArray T_cell (0, 0)) := u3.new
      rw [ins_new htl hcl (by rw [Nat.succ_mul]) (by rw [hzl, hdl]; show (n + 1 - i) * 3 = _; rw [Nat.sub_mul, Nat.sub_mul, Nat.succ_mul]; omega)] at hb3
      exact ⟨hx3, Rw.ofBlk hb3⟩
    · -- there is room
      have hrl3 : 3 ≤ rest.length := by omega
      refine nm (v := ((n + 1 : Nat) : Int)) (wr64 (by simp) (by omega) (by omega)) ?_
      refine ⟨by omega, by omega, _, up_slice', ?_⟩
      refine nm (v := ((i + 1 : Nat) : Int)) (wr64 (by simp) (by omega) (by omega)) ?_
      refine ⟨by omega, by omega, _, sub_slice (by omega), ?_⟩
      have hdl : (xs.drop (i * 3)).length = (n - i) * 3 := by rw [List.length_drop, Nat.sub_mul]; omega
      have htl : (xs.take (i * 3)).length = i * 3 := by rw [List.length_take]; omega
      have hxs : xs.take (i * 3) ++ xs.drop (i * 3) = xs := List.take_append_drop _ _
      refine cl (over_spec (Ne.symm hgv) hvb hg ?_) ?_
      · intro h
        have := congrArg List.length h
        rw [List.length_append, List.length_nil] at this
        omega
      rintro _ _ ⟨rfl, rfl⟩
      refine nm (v := ((i + 1 : Nat) : Int)) (wr64 (by simp) (by omega) (by omega)) ?_
      refine ⟨by omega, by omega, _, sub_slice (by omega), ?_⟩
      refine ⟨by omega, by omega, _, sub_slice (by omega), ?_⟩
      refine cpy tt_ok rfl rfl rfl rfl (w := drw w) hg (n := n + 1 - (i + 1)) (by omega) (cs := xs.drop (i * 3)) (by rw [hdl]; congr 1; omega) (celsAt_blk hg ?_) ?_ ?_ ?_
      · rw [List.drop_append_of_le_length (by omega), List.take_left]
      · rw [List.length_append, hdl, hxl, hrl, Nat.sub_mul, Nat.sub_mul, Nat.succ_mul]
        have : (i + 1) * 3 ≤ n * 3 := Nat.mul_le_mul_right _ hlt
        have : (n + 1) * 3 ≤ cap * 3 := Nat.mul_le_mul_right _ (by omega)
        omega
      · exact List.all_eq_true.2 fun x hx => List.all_eq_true.1 hxf x (List.mem_of_mem_drop hx)
      intro w1 u1
      have hx1 : Ext w0 w1 := (hx.trans (Ext.drw w)).upd (show w0.heap.size ≤ g from hgb) u1
      have hb1 : w1.heap[g]? = some (.cells (setL (xs ++ rest) ((i + 1) * 3) (xs.drop (i * 3))).toArray T_cell (0, 0)) := u1.new
      have hv1 : w1.heap[vb]? = some (.cells cell.toArray T_cell (0, 0)) := u1.old (Ne.symm hgv) hvb
      refine ⟨by omega, by omega, _, sub_slice (by omega), ?_⟩
      refine cpy tt_ok rfl rfl rfl rfl hb1 (n := 1) (by omega) (cs := cell) (by omega) (celsAt_blk hv1 (by rw [List.drop_zero, List.take_length])) ?_ hcf ?_
      · rw [setL_length _ _ _ ?_, List.length_append]
        · have : (i + 1) * 3 ≤ n * 3 := Nat.mul_le_mul_right _ hlt
          omega
        · rw [List.length_append, hdl, hxl, hrl, Nat.sub_mul, Nat.sub_mul, Nat.succ_mul]
          have : (i + 1) * 3 ≤ n * 3 := Nat.mul_le_mul_right _ hlt
          have : (n + 1) * 3 ≤ cap * 3 := Nat.mul_le_mul_right _ (by omega)
          omega
      intro w2 u2
      have hx2 : Ext w0 w2 := hx1.upd (show w0.heap.size ≤ g from hgb) u2
      have hb2 : w2.heap[g]? = some (.cells (setL (setL (xs ++ rest) ((i + 1) * 3) (xs.drop (i * 3))) (i * 3) cell).toArray T_cell (0, 0)) := u2.new
      have e1 : xs ++ rest = xs.take (i * 3) ++ xs.drop (i * 3) ++ rest := by rw [hxs]
      rw [e1, ins_old htl hcl (by rw [Nat.succ_mul]) (by omega) hrl3] at hb2
      exact ⟨hx2, Rw.ofBlk hb2⟩

end Go.Proofs.Ytlpndcfkjkbeoaa

namespace Go.Proofs.Ytlpndcfkjkbeoaa
open Go Go.Pan

theorem things_flat (m : List (Nat × Nat)) : (m.flatMap thingV).all flat = true := by
  induction m with
  | nil => rfl
  | cons c m ih => rw [List.flatMap_cons, List.all_append, ih]; rfl

/-- kids with one more, or another one -/
def insM (a p : Nat) (m : List (Nat × Nat)) : List (Nat × Nat) := m.filter (fun c => decide (c.1 < a)) ++ (a, p) :: m.filter (fun c => decide (a < c.1))

theorem insM_rising {a p : Nat} {m : List (Nat × Nat)} (h : Rising m) : Rising (insM a p m) := by
  refine List.pairwise_append.2 ⟨List.Pairwise.filter _ h, List.pairwise_cons.2 ⟨?_, List.Pairwise.filter _ h⟩, ?_⟩
  · intro c hc
    simpa using (List.mem_filter.1 hc).2
  · intro c hc d hd
    have h1 : c.1 < a := by simpa using (List.mem_filter.1 hc).2
    rcases List.mem_cons.1 hd with rfl | hd
    · exact h1
    · have h2 : a < d.1 := by simpa using (List.mem_filter.1 hd).2
      omega

theorem mem_insM {a p : Nat} {m : List (Nat × Nat)} {c : Nat × Nat} : c ∈ insM a p m ↔ c = (a, p) ∨ c ∈ m ∧ c.1 ≠ a := by
  unfold insM
  rw [List.mem_append, List.mem_cons, List.mem_filter, List.mem_filter]
  simp only [decide_eq_true_eq]
  constructor
  · rintro (⟨h1, h2⟩ | h | ⟨h1, h2⟩)
    · exact .inr ⟨h1, by omega⟩
    · exact .inl h
    · exact .inr ⟨h1, by omega⟩
  · rintro (h | ⟨h1, h2⟩)
    · exact .inr (.inl h)
    · rcases Nat.lt_or_gt_of_ne h2 with g | g
      · exact .inl ⟨h1, g⟩
      · exact .inr (.inr ⟨h1, g⟩)

theorem FromAt.rise_eq {m : List (Nat × Nat)} {a i : Nat} (h : Rising m) (hf : FromAt m a i) (p : Nat) :
    (¬ (∃ h : i < m.length, m[i].1 = a) → insM a p m = m.take i ++ (a, p) :: m.drop i) ∧ (∀ h : i < m.length, m[i].1 = a → insM a p m = m.set i (a, p)) := by
  have h1 : ∀ c ∈ m.take i, c.1 < a := fun c hc => by
    obtain ⟨j, hj, rfl⟩ := List.getElem_of_mem hc
    rw [List.length_take] at hj
    rw [List.getElem_take]
    have := hf.lo j (by omega) (by omega); omega
  have h2 : ∀ c ∈ m.drop i, a ≤ c.1 := fun c hc => by
    obtain ⟨j, hj, rfl⟩ := List.getElem_of_mem hc
    rw [List.length_drop] at hj
    rw [List.getElem_drop]
    have := hf.hi (i + j) (by omega) (by omega); omega
  have htd : m = m.take i ++ m.drop i := (List.take_append_drop i m).symm
  have hf1 : m.filter (fun c => decide (c.1 < a)) = m.take i := by
    conv => lhs; rw [htd]
    rw [List.filter_append, List.filter_eq_self.2 (fun c hc => by simpa using h1 c hc), List.filter_eq_nil_iff.2 (fun c hc => by have := h2 c hc; simpa using this), List.append_nil]
  have hf0 : (m.take i).filter (fun c => decide (a < c.1)) = [] := List.filter_eq_nil_iff.2 (fun c hc => by have := h1 c hc; simp; omega)
  constructor
  · intro hn
    have h3 : ∀ c ∈ m.drop i, a < c.1 := fun c hc => by
      obtain ⟨j, hj, rfl⟩ := List.getElem_of_mem hc
      rw [List.length_drop] at hj
      rw [List.getElem_drop]
      have := hf.hi (i + j) (by omega) (by omega)
      rcases Nat.eq_zero_or_pos j with g | g
      · subst g
        have : m[i + 0].1 ≠ a := fun e => hn ⟨by omega, e⟩
        omega
      · have g1 := h.at_lt (show i < i + j by omega) (by omega)
        have := hf.hi i (by omega) (Nat.le_refl _)
        omega
    unfold insM
    rw [hf1]
    congr 2
    conv => lhs; rw [htd]
    rw [List.filter_append, hf0, List.nil_append, List.filter_eq_self.2 (fun c hc => by simpa using h3 c hc)]
  · intro hi e
    unfold insM
    rw [hf1, List.set_eq_take_append_cons_drop, if_pos hi]
    congr 2
    conv => lhs; rw [htd]
    rw [List.filter_append, hf0, List.nil_append, List.drop_eq_getElem_cons hi, List.filter_cons, if_neg (by simp; omega)]
    refine List.filter_eq_self.2 fun c hc => ?_
    obtain ⟨j, hj, rfl⟩ := List.getElem_of_mem hc
    rw [List.length_drop] at hj
    rw [List.getElem_drop]
    have := h.at_lt (show i < i + 1 + j by omega) (by omega)
    simp; omega

theorem slots_put_spec {b k : Nat} {m : List (Nat × Nat)} {w : World} (s : SlotsRep w.heap b k m) (h1 : 1 ≤ k) (h2 : k ≤ 16) {addr : Nat} (ha : addr < 2 ^ k) (p : Nat) :
    CallK Try.prog F_slots_Slots_node_Node_Put [ptr b, I addr, ptr p] (fun r w' => Ext w w' ∧ ∃ b', r = .tuple #[ptr b', I 0] ∧ SlotsRep w'.heap b' k (insM addr p m)) w := by
  have hrise := s.rising
  have hsm := s.small
  have hml := s.len
  have hp : 2 ^ k ≤ 2 ^ 16 := Nat.pow_le_pow_right (by decide) h2
  obtain ⟨C, hC, eC⟩ := s.cells
  obtain ⟨sv, hsb, -⟩ := hC.blk
  have hism : ∀ c ∈ insM addr p m, c.1 < 2 ^ k := fun c hc => by
    rcases mem_insM.1 hc with rfl | ⟨h, -⟩
    · exact ha
    · exact hsm c h
  refine e_slots_Slots_node_Node_Put rfl ?_
  refine cl (slots_check_spec s addr ha) ?_
  rintro _ _ ⟨rfl, rfl⟩
  refine tsT rfl ?_
  refine cl (things_spec s) ?_
  rintro v w1 ⟨hx1, hown1⟩
  refine cl (bin_spec (own_rw hown1) hrise (fun c hc => by have := hsm c hc; omega) hml (by omega)) ?_
  rintro _ w2 ⟨hx2, i, ok, rfl, hf, hok⟩
  have hown2 := own_keep hown1 hx2
  have hx02 := hx1.trans hx2
  cases ok with
  | true =>
    obtain ⟨hi, e⟩ := hok.1 rfl
    obtain ⟨g, cap, rest, rfl, hgb, hnc, hg, hsz⟩ := own_cur hown2 (by omega)
    refine ix rfl hi ?_
    refine ⟨by decide, ?_⟩
    refine st hg rfl (Nat.ble_eq_true_of_le ?_) rfl ?_
    · show 0 + i * 3 + 1 + 1 ≤ _
      rw [List.length_append, flat_len thingV_len]; omega
    intro w3 u3
    have hx3 : Ext w w3 := hx02.upd (show w.heap.size ≤ g by omega) u3
    have hg3 : w3.heap[g]? = some (.cells (setL (m.flatMap thingV ++ rest) (0 + i * 3 + 1) [ptr p]).toArray T_cell (0, 0)) := u3.new
    rw [Nat.zero_add, setL_left (by rw [flat_len thingV_len]; simp only [List.length_singleton]; omega), flat_set_part thingV_len m i hi 1 [ptr p] (addr, p) (by simp) (by rw [show m[i] = (addr, m[i].2) from Prod.ext e rfl]; rfl), ← (hf.rise_eq hrise p).2 hi e] at hg3
    have hil : (insM addr p m).length = m.length := by rw [(hf.rise_eq hrise p).2 hi e, List.length_set]
    refine ⟨by decide, ldB (hx3.blk hsb) rfl ?_⟩
    have hrw : Rw w3.heap (.slice (some ⟨g, 0, none⟩) m.length cap) (insM addr p m).length ((insM addr p m).flatMap thingV) := by
      rw [← hil]; exact Rw.ofBlk hg3
    refine cl (kept_spec hrw (insM_rising hrise) hism h1 h2) ?_
    rintro _ w4 ⟨hx4, b', rfl, hs4⟩
    exact ⟨hx3.trans hx4, b', rfl, hs4⟩
  | false =>
    have hnot : ¬ ∃ h : i < m.length, m[i].1 = addr := fun h => by have := hok.2 h; cases this
    have hins := (hf.rise_eq hrise p).1 hnot
    refine ⟨rfl, rfl, by decide, al ?_⟩
    intro vb w3 hvb hx3 hsz3 hblk3
    have hblk3' : w3.heap[vb]? = some (.cells (thingV (addr, p)).toArray T_cell (0, 0)) := hblk3
    have hin := insert_spec (hx02.trans hx3) (v := v) (xs := m.flatMap thingV) (n := m.length) (own_keep hown2 hx3) hml hf.le hblk3' rfl rfl (things_flat m) (fun g hg => by
      have := (hown2.lt g hg).2
      omega)
    refine cl hin ?_
    rintro v' w4 ⟨hx4, hrw⟩
    have hil : (insM addr p m).length = m.length + 1 := by
      rw [hins, List.length_append, List.length_cons, List.length_take, List.length_drop]
      have := hf.le
      omega
    have hcells : (m.flatMap thingV).take (i * 3) ++ thingV (addr, p) ++ (m.flatMap thingV).drop (i * 3) = (insM addr p m).flatMap thingV := by
      rw [flat_take thingV_len, flat_drop thingV_len, hins, List.flatMap_append, List.flatMap_cons, List.append_assoc]
    rw [hcells, ← hil] at hrw
    refine ⟨by decide, ldB (hx4.blk hsb) rfl ?_⟩
    refine cl (kept_spec hrw (insM_rising hrise) hism h1 h2) ?_
    rintro _ w5 ⟨hx5, b', rfl, hs5⟩
    exact ⟨hx4.trans hx5, b', rfl, hs5⟩

end Go.Proofs.Ytlpndcfkjkbeoaa

namespace Go.Proofs.Ytlpndcfkjkbeoaa
open Go Go.Pan

/-- kids without one -/
def delM (a : Nat) (m : List (Nat × Nat)) : List (Nat × Nat) := m.filter fun c => decide (c.1 ≠ a)

theorem del1_spec {c : Nat × Nat} {addr nb : Nat} {w : World} (hb : w.heap[nb]? = some (.cells #[I addr] T_i64 (0, 0))) :
    CallK Try.prog F_slots_Slots_node_Node_Del_1 [.agg (thingV c).toArray, ptr nb] (fun r w' => Ext w w' ∧ r = .bool (decide (c.1 = addr))) w := by
  refine e_slots_Slots_node_Node_Del_1 rfl ?_
  refine al ?_
  intro b w1 hb1 hx hsz hblk
  have hb2 : w1.heap[b]? = some (.cells (thingV c).toArray T_cell (0, 0)) := hblk
  refine ⟨by decide, ldB hb2 rfl ?_⟩
  refine ldB (hx.blk hb) rfl ?_
  refine ts (fun g => ?_) (fun g => ?_)
  · exact ⟨hx, by rw [decide_eq_true (show c.1 = addr by omega)]; rfl⟩
  · exact ⟨hx, by rw [decide_eq_false (show ¬ c.1 = addr by omega)]; rfl⟩

abbrev delF (nb : Nat) : Value := .func (.func F_slots_Slots_node_Node_Del_1) #[] #[ptr nb]

theorem index_spec {v : Value} {m : List (Nat × Nat)} {w : World} (hr : Rw w.heap v m.length (m.flatMap thingV)) (hl : m.length ≤ 65536) {addr nb i : Nat} (hb : w.heap[nb]? = some (.cells #[I addr] T_i64 (0, 0)))
    (hi : i < m.length) (e : m[i].1 = addr) (hlo : ∀ j (h : j < m.length), j < i → m[j].1 ≠ addr) :
    CallK Try.prog F_slices_IndexFunc_sl_slots_cell_node_Node_slots_cell_node_Node [v, delF nb] (fun r w' => Ext w w' ∧ r = I i) w := by
  obtain ⟨a, cap, rfl⟩ := hr.form
  obtain ⟨cb, co, rfl, hcs⟩ := hr.place (by omega)
  refine e_slices_IndexFunc_sl_slots_cell_node_Node_slots_cell_node_Node rfl ?_
  refine lp (fun j : Nat => [(0, .slice (some ⟨cb, co, none⟩) m.length cap), (1, delF nb), (7, I m.length), (8, I j)]) (fun j w' => Ext w w' ∧ j ≤ i) (fun j => m.length - j) 0 ⟨rfl, rfl, rfl, rfl, trivial⟩ ⟨Ext.refl w, Nat.zero_le _⟩ ?_
  rintro j e0 w1 ⟨hx, hj⟩
  refine tsT (by omega) ?_
  have hjm : j < m.length := by omega
  refine ix rfl hjm ?_
  refine ldC (cs := thingV m[j]) ((hx.1.cels hcs).sub (flat_elem thingV_len m j hjm)) rfl ?_
  refine cl (del1_spec (hx.blk hb)) ?_
  rintro _ w2 ⟨hx2, rfl⟩
  rcases Nat.eq_or_lt_of_le hj with g | g
  · subst g
    rw [decide_eq_true e]
    exact ⟨hx.trans hx2, rfl⟩
  · rw [decide_eq_false (hlo j hjm g)]
    refine nm (inc64 (by omega)) ?_
    exact ⟨j + 1, ⟨⟨rfl, rfl, rfl, rfl, trivial⟩, hx.trans hx2, g⟩, by omega⟩

theorem drop_get {α : Type} {l : List α} {i j : Nat} (h : i ≤ j) (hj : j < l.length) : (l.drop i)[j - i]'(by rw [List.length_drop]; omega) = l[j] := by
  rw [List.getElem_drop]; congr 1; omega

set_option maxHeartbeats 1000000 in
theorem delfunc_spec {w0 w : World} (hx : Ext w0 w) {v : Value} {m : List (Nat × Nat)} (hown : w.ownsRow w0.heap.size T_cell 3 v m.length (m.flatMap thingV)) (hl : m.length ≤ 65536) (hrise : Rising m) {addr nb p : Nat} (hb : w.heap[nb]? = some (.cells #[I addr] T_i64 (0, 0)))
    (hne : ∀ g, v.ownBlock = some g → g ≠ nb) (hm : (addr, p) ∈ m) :
    CallK Try.prog F_slices_DeleteFunc_sl_slots_cell_node_Node_slots_cell_node_Node [v, delF nb] (fun r w' => Ext w0 w' ∧ Rw w'.heap r (delM addr m).length ((delM addr m).flatMap thingV)) w := by
  obtain ⟨i, hi, ei⟩ := List.getElem_of_mem hm
  have e1 : m[i].1 = addr := by rw [ei]
  have hlo : ∀ j (h : j < m.length), j ≠ i → m[j].1 ≠ addr := fun j h g e => by
    rcases Nat.lt_or_gt_of_ne g with g | g
    · have := hrise.at_lt g hi; omega
    · have := hrise.at_lt g h; omega
  have hr := own_rw hown
  obtain ⟨g, cap, rest, rfl, hgb, hnc, hg, hsz⟩ := own_cur hown (by omega)
  have hgn : g ≠ nb := hne g rfl
  refine e_slices_DeleteFunc_sl_slots_cell_node_Node_slots_cell_node_Node rfl ?_
  refine cl (index_spec hr hl hb hi e1 (fun j h g => hlo j h (by omega))) ?_
  rintro _ w1 ⟨hx1, rfl⟩
  refine tsF (by omega) ?_
  refine nm (inc64 (by omega)) ?_
  -- the row behind each round: what stays of the first j, then the old ones
  refine lp (fun j : Nat => [(0, .slice (some ⟨g, 0, none⟩) m.length cap), (1, delF nb), (5, I ((j - 1 : Nat) : Int)), (6, I j)])
    (fun j w' => Ext w0 w' ∧ i + 1 ≤ j ∧ j ≤ m.length ∧ w'.heap[nb]? = some (.cells #[I addr] T_i64 (0, 0)) ∧ w'.heap[g]? = some (.cells ((delM addr (m.take j) ++ m.drop (j - 1)).flatMap thingV ++ rest).toArray T_cell (0, 0))) (fun j => m.length - j) (i + 1) ⟨rfl, rfl, rfl, rfl, trivial⟩ ⟨hx.trans hx1, Nat.le_refl _, hi, hx1.blk hb, ?_⟩ ?_
  · have hd : delM addr (m.take (i + 1)) = m.take i := by
      unfold delM
      rw [take_snoc m i hi, List.filter_append, List.filter_eq_self.2, List.filter_cons, if_neg (by simp [e1])]
      · simp
      · intro c hc
        obtain ⟨j, hj, rfl⟩ := List.getElem_of_mem hc
        rw [List.length_take] at hj
        rw [List.getElem_take]
        simpa using hlo j (by omega) (by omega)
    rw [hd, Nat.add_sub_cancel, List.take_append_drop]
    exact hx1.blk hg
  rintro j e0 w2 ⟨hx2, hj1, hj2, hnb2, hg2⟩
  -- how many stay of the first j
  have hcount : ∀ j, i + 1 ≤ j → j ≤ m.length → (delM addr (m.take j)).length = j - 1 := by
    intro j
    induction j with
    | zero => intro h; omega
    | succ j ih =>
      intro h1 h2
      unfold delM at ih ⊢
      rw [take_snoc m j (by omega), List.filter_append, List.length_append]
      rcases Nat.eq_or_lt_of_le h1 with g | g
      · have : i = j := by omega
        subst this
        rw [List.filter_eq_self.2, List.filter_cons, if_neg (by simp [e1]), List.length_take]
        · simp; omega
        · intro c hc
          obtain ⟨q, hq, rfl⟩ := List.getElem_of_mem hc
          rw [List.length_take] at hq
          rw [List.getElem_take]
          simpa using hlo q (by omega) (by omega)
      · rw [ih (by omega) (by omega), List.filter_cons, if_pos (by simpa using hlo j (by omega) (by omega))]
        simp; omega
  have hcj := hcount j hj1 hj2
  have hlen : (delM addr (m.take j) ++ m.drop (j - 1)).length = m.length := by
    rw [List.length_append, hcj, List.length_drop]; omega
  refine ts (fun g1 => ?_) (fun g1 => ?_)
  · have hjm : j < m.length := by omega
    have hget : (delM addr (m.take j) ++ m.drop (j - 1))[j]'(by omega) = m[j] := by
      rw [List.getElem_append_right (by omega), List.getElem_drop]
      congr 1; omega
    have hcs2 : celsAt w2.heap ⟨g, 0, none⟩ ((delM addr (m.take j) ++ m.drop (j - 1)).flatMap thingV) := celsAt_blk hg2 (by rw [List.drop_zero, List.take_left])
    refine ix rfl hjm ?_
    refine ldC (cs := thingV m[j]) (hcs2.sub (by rw [flat_elem thingV_len _ j (by omega), hget])) rfl ?_
    refine al ?_
    intro b3 w3 hb3 hx3 hsz3 hblk3
    refine st hblk3 rfl rfl (thingV_flat _) ?_
    intro w4 u4
    have hx4 : Ext w2 w4 := hx3.upd (show w2.heap.size ≤ b3 by omega) u4
    have hb4 : w4.heap[b3]? = some (.cells (thingV m[j]).toArray T_cell (0, 0)) := u4.new
    refine ldC (cs := thingV m[j]) (celsAt_blk hb4 rfl) rfl ?_
    refine cl (del1_spec (hx4.blk hnb2)) ?_
    rintro _ w5 ⟨hx5, rfl⟩
    rw [decide_eq_false (hlo j hjm (by omega))]
    refine ldC (cs := thingV m[j]) (celsAt_blk (hx5.blk hb4) rfl) rfl ?_
    refine ix rfl (show j - 1 < m.length by omega) ?_
    refine st (hx5.blk (hx4.blk hg2)) rfl (Nat.ble_eq_true_of_le ?_) (thingV_flat _) ?_
    · show 0 + (j - 1) * 3 + 3 ≤ _
      rw [List.length_append, flat_len thingV_len, hlen]; omega
    intro w6 u6
    have hg6 : w6.heap[g]? = some (.cells (setL ((delM addr (m.take j) ++ m.drop (j - 1)).flatMap thingV ++ rest) (0 + (j - 1) * 3) (thingV m[j])).toArray T_cell (0, 0)) := u6.new
    have hset : (delM addr (m.take j) ++ m.drop (j - 1)).set (j - 1) m[j] = delM addr (m.take (j + 1)) ++ m.drop (j + 1 - 1) := by
      rw [List.set_append_right _ _ (by omega), hcj, Nat.sub_self, List.drop_eq_getElem_cons (show j - 1 < m.length by omega), List.set_cons_zero, show j - 1 + 1 = j from by omega]
      have : delM addr (m.take (j + 1)) = delM addr (m.take j) ++ [m[j]] := by
        unfold delM
        rw [take_snoc m j hjm, List.filter_append]
        congr 1
        rw [List.filter_cons, if_pos (by simpa using hlo j hjm (by omega))]
        rfl
      rw [this, List.append_assoc]
      simp
    rw [Nat.zero_add, setL_left (by rw [flat_len thingV_len, hlen, thingV_len]; omega), flat_set thingV_len _ (j - 1) (by omega), hset] at hg6
    refine nm (v := ((j + 1 - 1 : Nat) : Int)) (wr64 (by omega) (by omega) (by omega)) ?_
    refine nm (inc64 (by omega)) ?_
    refine ⟨j + 1, ⟨⟨rfl, rfl, rfl, rfl, trivial⟩, (hx2.trans (hx4.trans hx5)).upd (show w0.heap.size ≤ g from hgb) u6, by omega, hjm, u6.old (Ne.symm hgn) (hx5.blk (hx4.blk hnb2)), hg6⟩, by omega⟩
  · have hjm : j = m.length := by omega
    subst hjm
    rw [List.take_length] at hg2 hcj
    have hml0 : 0 < m.length := by omega
    refine ⟨by omega, by omega, _, sub_slice (by omega), ?_⟩
    refine clr tt_ok rfl rfl rfl (by decide) rfl hg2 (by omega) ?_ rfl ?_
    · show (m.length - 1) * 3 + (m.length - (m.length - 1)) * 3 ≤ _
      rw [List.length_append, flat_len thingV_len, List.length_append, hcj, List.length_drop]
      omega
    intro _ w3 u3
    have hg3 : w3.heap[g]? = some (.cells (setL ((delM addr m ++ m.drop (m.length - 1)).flatMap thingV ++ rest) ((m.length - 1) * 3) (List.replicate (m.length - (m.length - 1)) ([I 0, nilp, .bool false] : List Value)).flatten).toArray T_cell (0, 0)) := u3.new
    refine ⟨by omega, by omega, _, up_slice', ?_⟩
    refine ⟨hx2.upd (show w0.heap.size ≤ g from hgb) u3, ?_⟩
    have hzl := zeros_len (zero := [I 0, nilp, .bool false]) (m.length - (m.length - 1))
    rw [List.flatMap_append, setL_mid (by rw [flat_len thingV_len, hcj]) (by rw [flat_len thingV_len, List.length_drop, hzl]; rfl), List.append_assoc] at hg3
    show Rw w3.heap (.slice (some ⟨g, 0, none⟩) (m.length - 1) cap) _ _
    rw [← hcj]
    exact Rw.ofBlk hg3

end Go.Proofs.Ytlpndcfkjkbeoaa

namespace Go.Proofs.Ytlpndcfkjkbeoaa
open Go Go.Pan

theorem delM_rising {a : Nat} {m : List (Nat × Nat)} (h : Rising m) : Rising (delM a m) := List.Pairwise.filter _ h
theorem mem_delM {a : Nat} {m : List (Nat × Nat)} {c : Nat × Nat} : c ∈ delM a m ↔ c ∈ m ∧ c.1 ≠ a := by simp [delM]

theorem slots_del_spec {b k : Nat} {m : List (Nat × Nat)} {w : World} (s : SlotsRep w.heap b k m) (h1 : 1 ≤ k) (h2 : k ≤ 16) {addr p : Nat} (hm : (addr, p) ∈ m) :
    CallK Try.prog F_slots_Slots_node_Node_Del [ptr b, I addr] (fun r w' => Ext w w' ∧ ∃ b', r = .tuple #[ptr b', I 0] ∧ SlotsRep w'.heap b' k (delM addr m)) w := by
  have hrise := s.rising
  have hsm := s.small
  have hml := s.len
  have ha := hsm _ hm
  obtain ⟨C, hC, eC⟩ := s.cells
  obtain ⟨sv, hsb, -⟩ := hC.blk
  refine e_slots_Slots_node_Node_Del rfl ?_
  refine al ?_
  intro nb w1 hnb hx1 hsz1 hblk1
  have hnb1 : w1.heap[nb]? = some (.cells #[I addr] T_i64 (0, 0)) := hblk1
  refine ldB hnb1 rfl ?_
  refine cl (slots_check_spec (s.ext hx1.1) addr ha) ?_
  rintro _ _ ⟨rfl, rfl⟩
  refine tsT rfl ?_
  refine ldB hnb1 rfl ?_
  refine cl (get_spec (s.ext hx1.1) addr) ?_
  rintro _ w2 ⟨hx2, o, rfl, ho⟩
  have hop := (ho p).2 hm
  subst hop
  have hx02 := hx1.trans hx2
  refine ⟨by decide, ldB (hx02.blk hsb) rfl ?_⟩
  refine cl (things_spec (w := drw w2) (s.ext hx02.1)) ?_
  rintro v w3 ⟨hx3, hown3⟩
  refine ⟨hx3, ?_⟩
  have hlt : nb < w2.heap.size := lt_of_blk (hx2.blk hnb1)
  refine cl (delfunc_spec (w0 := drw w2) hx3 hown3 hml hrise (hx3.blk (hx2.blk hnb1)) (fun g hg => ?_) hm) ?_
  · have : w2.heap.size ≤ g := (hown3.lt g hg).1
    omega
  rintro v' w4 ⟨hx4, hrw⟩
  refine ⟨hx4, ?_⟩
  refine cl (kept_spec hrw (delM_rising hrise) (fun c hc => hsm c (mem_delM.1 hc).1) h1 h2) ?_
  rintro _ w5 ⟨hx5, b', rfl, hs5⟩
  refine ⟨hx4.trans hx5, ?_⟩
  exact ⟨(hx02.trans hx4).trans hx5, b', rfl, hs5⟩

end Go.Proofs.Ytlpndcfkjkbeoaa

namespace Go.Proofs.Ytlpndcfkjkbeoaa
open Go Go.Pan

/-! ### nodes: the representation -/

abbrev T_node := T_node_Node
/-- an entry: a point, a value -/
abbrev Ent := List Nat × Nat

def minV : List Ent → Nat
  | [] => 0
  | [e] => e.2
  | e :: f :: l => min e.2 (minV (f :: l))
def maxV : List Ent → Nat
  | [] => 0
  | [e] => e.2
  | e :: f :: l => max e.2 (maxV (f :: l))

theorem minV_append : ∀ {l m : List Ent}, l ≠ [] → m ≠ [] → minV (l ++ m) = min (minV l) (minV m)
  | [], _, h, _ => absurd rfl h
  | [e], [], _, h => absurd rfl h
  | [e], f :: m, _, _ => rfl
  | e :: f :: l, m, _, h => by
    have := minV_append (l := f :: l) (m := m) (by simp) h
    show min e.2 (minV (f :: l ++ m)) = _
    rw [this]
    show _ = min (min e.2 _) _
    omega
theorem maxV_append : ∀ {l m : List Ent}, l ≠ [] → m ≠ [] → maxV (l ++ m) = max (maxV l) (maxV m)
  | [], _, h, _ => absurd rfl h
  | [e], [], _, h => absurd rfl h
  | [e], f :: m, _, _ => rfl
  | e :: f :: l, m, _, h => by
    have := maxV_append (l := f :: l) (m := m) (by simp) h
    show max e.2 (maxV (f :: l ++ m)) = _
    rw [this]
    show _ = max (max e.2 _) _
    omega
def sumV (l : List Ent) : Nat := (l.map (·.2)).sum

/-- what the values of some entries come to, as it stands in a node -/
def sumsV (l : List Ent) : List Value := [U (l.length % 2 ^ 64), U (sumV l % 2 ^ 64), U (minV l), U (maxV l)]

inductive NodeRep (h : Array Obj) (k : Nat) : Nat → Nat → List Ent → Prop where
  | leaf (b : Nat) (p : List Nat) (v : Nat) (pv : Value) (hb : h[b]? = some (.cells ([I (-1), pv, U v, nilp] ++ sumsV [(p, v)]).toArray T_node (0, 0))) (hp : Sl h pv p) (hk : p.length = k) (h1 : 1 ≤ k) (h16 : k ≤ 16) (hv : v < 2 ^ 64) : NodeRep h k b 0 [(p, v)]
  | node (b L : Nat) (pre : List Nat) (pv : Value) (sb : Nat) (m : List (Nat × Nat)) (E : List (List Ent)) (Ls : Nat → Nat)
      (hb : h[b]? = some (.cells ([I L, pv, U 0, ptr sb] ++ sumsV E.flatten).toArray T_node (0, 0))) (hp : Sl h pv pre) (hk : pre.length = k) (hs : SlotsRep h sb k m) (h2 : 2 ≤ m.length) (hE : E.length = m.length) (hL : L < 64)
      (kids : ∀ i (h1 : i < m.length) (h2 : i < E.length), NodeRep h k m[i].2 (Ls i) E[i]) (hLs : ∀ i, i < m.length → Ls i ≤ L)
      (hd : ∀ i (h1 : i < m.length) (h2 : i < E.length), ∀ e ∈ E[i], dig L e.1 = m[i].1 ∧ shr (L + 1) e.1 = shr (L + 1) pre) (hcut : cutN (L + 1) pre = pre) : NodeRep h k b (L + 1) E.flatten

theorem NodeRep.ext {h h' : Array Obj} (x : HExt h h') {k b n : Nat} {l : List Ent} (r : NodeRep h k b n l) : NodeRep h' k b n l := by
  induction r with
  | leaf b p v pv hb hp hk h1 h16 hv => exact .leaf b p v pv (x.blk hb) (hp.ext x) hk h1 h16 hv
  | node b L pre pv sb m E Ls hb hp hk hs h2 hE hL kids hLs hd hcut ih => exact .node b L pre pv sb m E Ls (x.blk hb) (hp.ext x) hk (hs.ext x) h2 hE hL (fun i a b => ih i a b) hLs hd hcut

theorem NodeRep.k1 {h : Array Obj} {k b n : Nat} {l : List Ent} (r : NodeRep h k b n l) : 1 ≤ k ∧ k ≤ 16 := by
  cases r with
  | leaf _ p v pv hb hp hk h1 h16 hv => exact ⟨h1, h16⟩
  | node _ L pre pv sb m E Ls hb hp hk hs h2 hE hL kids hLs hd hcut =>
    obtain ⟨C, hc, -⟩ := hs.cells
    exact ⟨hc.k1, hc.k16⟩

theorem mem_flatten_get {E : List (List Ent)} {e : Ent} : e ∈ E.flatten ↔ ∃ i, ∃ h : i < E.length, e ∈ E[i] := by
  rw [List.mem_flatten]
  constructor
  · rintro ⟨l, hl, he⟩
    obtain ⟨i, hi, rfl⟩ := List.getElem_of_mem hl
    exact ⟨i, hi, he⟩
  · rintro ⟨i, hi, he⟩
    exact ⟨_, List.getElem_mem hi, he⟩

theorem NodeRep.ok {h : Array Obj} {k b n : Nat} {l : List Ent} (r : NodeRep h k b n l) : ∀ e ∈ l, e.1.length = k ∧ small 64 e.1 ∧ e.2 < 2 ^ 64 := by
  induction r with
  | leaf b p v pv hb hp hk h1 h16 hv =>
    intro e he
    simp only [List.mem_singleton] at he
    subst he
    exact ⟨hk, hp.small, hv⟩
  | node b L pre pv sb m E Ls hb hp hk hs h2 hE hL kids hLs hd hcut ih =>
    intro e he
    obtain ⟨i, hi, he⟩ := mem_flatten_get.1 he
    exact ih i (by omega) hi e he

theorem NodeRep.ne {h : Array Obj} {k b n : Nat} {l : List Ent} (r : NodeRep h k b n l) : l ≠ [] := by
  induction r with
  | leaf => simp
  | node b L pre pv sb m E Ls hb hp hk hs h2 hE hL kids hLs hd hcut ih =>
    have := ih 0 (by omega) (by omega)
    obtain ⟨e, he⟩ := List.exists_mem_of_ne_nil _ this
    exact List.ne_nil_of_mem (mem_flatten_get.2 ⟨0, by omega, he⟩)

/-- sorted by the z-order -/
def Srt (l : List Ent) : Prop := l.Pairwise fun a b => Z a.1 < Z b.1

theorem Z_lt_of_dig {p q : List Nat} {L : Nat} (h : p.length = q.length) (hL : L < 64) (hp : small 64 p) (hq : small 64 q) (hs : shr (L + 1) p = shr (L + 1) q) (hd : dig L p < dig L q) : Z p < Z q := by
  have h1 := (Z_above h (by omega : L + 1 ≤ 64) hp hq).2 hs
  have h2 := Z_succ (p := p) hL
  have h3 := Z_succ (p := q) hL
  rw [← h] at h3
  refine Nat.lt_of_not_ge fun g => ?_
  have := Nat.div_le_div_right (c := (2 ^ p.length) ^ L) g
  rw [h2, h3, h1] at this
  omega

theorem dig_le_of_Z {p q : List Nat} {L : Nat} (h : p.length = q.length) (hL : L < 64) (hp : small 64 p) (hq : small 64 q) (hs : shr (L + 1) p = shr (L + 1) q) (hd : Z p ≤ Z q) : dig L p ≤ dig L q := by
  refine Nat.le_of_not_lt fun g => ?_
  have := Z_lt_of_dig h.symm hL hq hp hs.symm g
  omega

theorem pairwise_flatten_get {R : Ent → Ent → Prop} {E : List (List Ent)} (h1 : ∀ i (h : i < E.length), E[i].Pairwise R) (h2 : ∀ i j (hj : j < E.length) (hij : i < j), ∀ a ∈ E[i]'(by omega), ∀ b ∈ E[j], R a b) : E.flatten.Pairwise R := by
  rw [List.pairwise_flatten]
  refine ⟨fun l hl => ?_, List.pairwise_iff_getElem.2 fun i j hi hj hij => h2 i j hj hij⟩
  obtain ⟨i, hi, rfl⟩ := List.getElem_of_mem hl
  exact h1 i hi

theorem NodeRep.srt {h : Array Obj} {k b n : Nat} {l : List Ent} (r : NodeRep h k b n l) : Srt l := by
  induction r with
  | leaf => exact List.pairwise_singleton ..
  | node b L pre pv sb m E Ls hb hp hk hs h2 hE hL kids hLs hd hcut ih =>
    refine pairwise_flatten_get (fun i hi => ih i (by omega) hi) fun i j hj hij a ha b hb => ?_
    have hda := hd i (by omega) (by omega) a ha
    have hdb := hd j (by omega) (by omega) b hb
    have oa := (kids i (by omega) (by omega)).ok a ha
    have ob := (kids j (by omega) (by omega)).ok b hb
    refine Z_lt_of_dig (by rw [oa.1, ob.1]) hL oa.2.1 ob.2.1 (hda.2.trans hdb.2.symm) ?_
    rw [hda.1, hdb.1]
    exact hs.rising.at_lt hij (by omega)

/-- what any node is, leaf or not -/
structure NodeHead (h : Array Obj) (k b n : Nat) (l : List Ent) : Prop where
  ex : ∃ (pv : Value) (pre : List Nat) (v : Nat) (o : Option Nat), h[b]? = some (.cells ([I ((n : Int) - 1), pv, U v, ptrO o] ++ sumsV l).toArray T_node (0, 0)) ∧ Sl h pv pre ∧ pre.length = k ∧ (∀ e ∈ l, shr n e.1 = shr n pre) ∧ cutN n pre = pre ∧
    (o = none ↔ n = 0) ∧ (n = 0 → l = [(pre, v)]) ∧ n ≤ 64

theorem cutN_zero (p : List Nat) : cutN 0 p = p := by simp [cutN]

theorem NodeRep.head {h : Array Obj} {k b n : Nat} {l : List Ent} (r : NodeRep h k b n l) : NodeHead h k b n l := by
  cases r with
  | leaf _ p v pv hb hp hk h1 h16 hv => exact ⟨pv, p, v, none, hb, hp, hk, fun e he => by rw [List.mem_singleton.1 he], cutN_zero p, by simp, fun _ => rfl, by omega⟩
  | node _ L pre pv sb m E Ls hb hp hk hs h2 hE hL kids hLs hd hcut =>
    refine ⟨pv, pre, 0, some sb, ?_, hp, hk, fun e he => ?_, hcut, by simp, fun h => by omega, by omega⟩
    · rw [show ((L + 1 : Nat) : Int) - 1 = L from by omega]; exact hb
    · obtain ⟨i, hi, he⟩ := mem_flatten_get.1 he
      exact (hd i (by omega) hi e he).2

end Go.Proofs.Ytlpndcfkjkbeoaa

namespace Go.Proofs.Ytlpndcfkjkbeoaa
open Go Go.Pan

/-! ### nodes: what is read -/

theorem node_level_spec {k b n : Nat} {l : List Ent} {w : World} (r : NodeRep w.heap k b n l) : CallK Try.prog F_node_Node_Level [ptr b] (fun r w' => w = w' ∧ r = I ((n : Int) - 1)) w := by
  obtain ⟨pv, pre, v, o, hb, -⟩ := r.head.ex
  refine e_node_Node_Level rfl ?_
  refine ⟨by decide, ldB hb rfl ?_⟩
  exact ⟨rfl, rfl⟩
theorem nil_level_spec (w : World) : CallK Try.prog F_node_Node_Level [nilp] (fun r w' => w = w' ∧ r = I (-1)) w := by
  refine e_node_Node_Level rfl ?_
  exact ⟨rfl, rfl⟩

theorem node_k_spec {k b n : Nat} {l : List Ent} {w : World} (r : NodeRep w.heap k b n l) : CallK Try.prog F_node_Node_K [ptr b] (fun r w' => w = w' ∧ r = I k) w := by
  obtain ⟨pv, pre, v, o, hb, hp, hk, -⟩ := r.head.ex
  obtain ⟨a, cap, rfl⟩ := hp.form
  refine e_node_Node_K rfl ?_
  refine ⟨by decide, ldB hb rfl ?_⟩
  rw [hk]
  exact ⟨rfl, rfl⟩

theorem node_covers_spec {k b n : Nat} {l : List Ent} {w : World} (r : NodeRep w.heap k b n l) {u : Value} {q : List Nat} (t : Sl w.heap u q) :
    CallK Try.prog F_node_Node_Covers [ptr b, u] (fun r w' => w = w' ∧ r = .bool (decide (q.length = k ∧ ∀ e ∈ l, shr n e.1 = shr n q))) w := by
  obtain ⟨pv, pre, v, o, hb, hp, hk, hpre, -, -, -, hn⟩ := r.head.ex
  have hk1 := r.k1
  refine e_node_Node_Covers rfl ?_
  refine ⟨by decide, ldB hb rfl ?_⟩
  refine cl (part_spec hp t) ?_
  rintro _ _ ⟨rfl, rfl⟩
  unfold partV
  by_cases hq : q.length = k
  · rw [if_pos ⟨by omega, by omega, by omega⟩]
    refine tsT rfl ?_
    refine ⟨by decide, ldB hb rfl ?_⟩
    have key : (∀ e ∈ l, shr n e.1 = shr n q) ↔ top pre q ≤ n := by
      rw [top_le (by omega)]
      obtain ⟨e0, he0⟩ := List.exists_mem_of_ne_nil _ r.ne
      exact ⟨fun h => (hpre e0 he0).symm.trans (h e0 he0), fun h e he => (hpre e he).trans h⟩
    refine ts (fun g => ?_) (fun g => ?_)
    · exact ⟨rfl, by rw [decide_eq_true ⟨hq, key.2 (by omega)⟩]; rfl⟩
    · exact ⟨rfl, by rw [decide_eq_false (fun h => g (by have := key.1 h.2; omega))]; rfl⟩
  · rw [if_neg (fun h => hq (by omega))]
    refine tsF (by decide) ?_
    exact ⟨rfl, by rw [decide_eq_false (fun h => hq h.1)]; rfl⟩
theorem nil_covers_spec (u : Value) (w : World) : CallK Try.prog F_node_Node_Covers [nilp, u] (fun r w' => w = w' ∧ r = .bool false) w := by
  refine e_node_Node_Covers rfl ?_
  exact ⟨rfl, rfl⟩

abbrev nilE : Value := .agg #[.slice none 0 0, U 0]

/-- what Entry answers -/
def EntryOf (w0 w : World) (n : Nat) (l : List Ent) (r : Value) : Prop :=
  (0 < n ∧ r = .tuple #[nilE, .bool false]) ∨ (n = 0 ∧ ∃ p v pv, l = [(p, v)] ∧ r = .tuple #[.agg #[pv, U v], .bool true] ∧ Fresh w0 w pv p)

theorem node_entry_spec {k b n : Nat} {l : List Ent} {w : World} (r : NodeRep w.heap k b n l) : CallK Try.prog F_node_Node_Entry [ptr b] (fun r w' => Ext w w' ∧ EntryOf w w' n l r) w := by
  obtain ⟨pv, pre, v, o, hb, hp, hk, hpre, -, ho, hl, hn⟩ := r.head.ex
  have hk1 := r.k1
  refine e_node_Node_Entry rfl ?_
  refine al ?_
  intro nb w1 hnb hx1 hsz1 hblk1
  have hblk1' : w1.heap[nb]? = some (.cells #[.slice none 0 0, U 0] T_api_Entry (0, 0)) := hblk1
  refine ⟨by decide, ldB (hx1.blk hb) rfl ?_⟩
  cases o with
  | some sb =>
    have hn0 : 0 < n := by
      rcases Nat.eq_zero_or_pos n with g | g
      · have := ho.2 g; cases this
      · exact g
    refine st hblk1' rfl rfl rfl ?_
    intro w2 u2
    have h2 : w2.heap[nb]? = some (.cells #[.slice none 0 0, U 0] T_api_Entry (0, 0)) := u2.new
    refine ldC (cs := [.slice none 0 0, U 0]) (celsAt_blk h2 rfl) rfl ?_
    exact ⟨hx1.upd (show w.heap.size ≤ nb by omega) u2, .inl ⟨hn0, rfl⟩⟩
  | none =>
    have hn0 : n = 0 := ho.1 rfl
    refine ⟨by decide, ldB (hx1.blk hb) rfl ?_⟩
    refine ⟨by decide, ldB (hx1.blk hb) rfl ?_⟩
    refine cl (clone_spec (w := drw w1) (hp.ext hx1.1) (by omega)) ?_
    rintro pv' w2 ⟨hx2, hs2, hfr⟩
    refine ⟨hx2, ?_⟩
    have hne : pre ≠ [] := fun e => by rw [e] at hk; simp at hk; omega
    obtain ⟨cb, cap, rest, rfl, hcb, hcblk⟩ := hfr hne
    refine st (hx2.blk hblk1') rfl rfl rfl ?_
    intro w3 u3
    have h3 : w3.heap[nb]? = some (.cells #[.slice (some ⟨cb, 0, none⟩) pre.length cap, U v] T_api_Entry (0, 0)) := u3.new
    have hcb' : w1.heap.size ≤ cb := hcb
    refine ldC (cs := [.slice (some ⟨cb, 0, none⟩) pre.length cap, U v]) (celsAt_blk (o := 0) h3 rfl) rfl ?_
    refine ⟨(hx1.trans hx2).upd (show w.heap.size ≤ nb by omega) u3, .inr ⟨hn0, pre, v, _, hl hn0, rfl, ?_⟩⟩
    have hcb3 := u3.old (show cb ≠ nb by omega) hcblk
    exact ⟨Sl.ofBlk hcb3 hp.small, cb, cap, rest, rfl, by omega, hcb3⟩
theorem nil_entry_spec (w : World) : CallK Try.prog F_node_Node_Entry [nilp] (fun r w' => Ext w w' ∧ r = .tuple #[nilE, .bool false]) w := by
  refine e_node_Node_Entry rfl ?_
  refine al ?_
  intro nb w1 hnb hx1 hsz1 hblk1
  have hblk1' : w1.heap[nb]? = some (.cells #[.slice none 0 0, U 0] T_api_Entry (0, 0)) := hblk1
  refine st hblk1' rfl rfl rfl ?_
  intro w2 u2
  have h2 : w2.heap[nb]? = some (.cells #[.slice none 0 0, U 0] T_api_Entry (0, 0)) := u2.new
  refine ldC (cs := [.slice none 0 0, U 0]) (celsAt_blk h2 rfl) rfl ?_
  exact ⟨hx1.upd (show w.heap.size ≤ nb by omega) u2, rfl⟩

theorem node_prefix_spec {k b n : Nat} {l : List Ent} {w : World} (r : NodeRep w.heap k b n l) :
    CallK Try.prog F_node_Node_Prefix [ptr b] (fun r w' => Ext w w' ∧ ∃ pre, Fresh w w' r pre ∧ pre.length = k ∧ (∀ e ∈ l, shr n e.1 = shr n pre) ∧ cutN n pre = pre) w := by
  obtain ⟨pv, pre, v, o, hb, hp, hk, hpre, hcut, ho, hl, hn⟩ := r.head.ex
  have hk1 := r.k1
  refine e_node_Node_Prefix rfl ?_
  refine ⟨by decide, ldB hb rfl ?_⟩
  refine cl (clone_spec hp (by omega)) ?_
  rintro pv' w2 ⟨hx2, hs2, hfr⟩
  have hne : pre ≠ [] := fun e => by rw [e] at hk; simp at hk; omega
  exact ⟨hx2, pre, ⟨hs2, hfr hne⟩, hk, hpre, hcut⟩

theorem sumsV_flat (l : List Ent) : (sumsV l).all flat = true := rfl

theorem node_sums_spec {k b n : Nat} {l : List Ent} {w : World} (r : NodeRep w.heap k b n l) : CallK Try.prog F_node_Node_Sums [ptr b] (fun r w' => Ext w w' ∧ r = .agg (sumsV l).toArray) w := by
  obtain ⟨pv, pre, v, o, hb, -⟩ := r.head.ex
  refine e_node_Node_Sums rfl ?_
  refine al ?_
  intro nb w1 hnb hx1 hsz1 hblk1
  refine ⟨by decide, ?_⟩
  refine ldC (cs := sumsV l) (celsAt_blk (hx1.blk hb) rfl) rfl ?_
  refine st hblk1 rfl rfl (sumsV_flat l) ?_
  intro w2 u2
  have h2 : w2.heap[nb]? = some (.cells (sumsV l).toArray T_api_Sums (0, 0)) := u2.new
  refine ldC (cs := sumsV l) (celsAt_blk h2 rfl) rfl ?_
  exact ⟨hx1.upd (show w.heap.size ≤ nb by omega) u2, rfl⟩
theorem nil_sums_spec (w : World) : CallK Try.prog F_node_Node_Sums [nilp] (fun r w' => Ext w w' ∧ r = .agg #[U 0, U 0, U 0, U 0]) w := by
  refine e_node_Node_Sums rfl ?_
  refine al ?_
  intro nb w1 hnb hx1 hsz1 hblk1
  have hblk1' : w1.heap[nb]? = some (.cells #[U 0, U 0, U 0, U 0] T_api_Sums (0, 0)) := hblk1
  refine st hblk1' rfl rfl rfl ?_
  intro w2 u2
  have h2 : w2.heap[nb]? = some (.cells #[U 0, U 0, U 0, U 0] T_api_Sums (0, 0)) := u2.new
  refine ldC (cs := [U 0, U 0, U 0, U 0]) (celsAt_blk h2 rfl) rfl ?_
  exact ⟨hx1.upd (show w.heap.size ≤ nb by omega) u2, rfl⟩

/-! ### kids -/

theorem flatten_filter {f : Ent → Nat} : ∀ {E : List (List Ent)} {m : List (Nat × Nat)}, E.length = m.length → Rising m → (∀ i (h1 : i < m.length) (h2 : i < E.length), ∀ e ∈ E[i], f e = m[i].1) →
    ∀ i (h1 : i < m.length) (h2 : i < E.length), E.flatten.filter (fun e => decide (f e = m[i].1)) = E[i]
  | [], _, _, _, _, i, _, h2 => by simp at h2
  | _ :: _, [], h, _, _, _, _, _ => by simp at h
  | x :: E, c :: m, hE, hr, hd, 0, h1, h2 => by
    obtain ⟨hc, hr'⟩ := List.pairwise_cons.1 hr
    simp only [List.length_cons, Nat.add_right_cancel_iff] at hE
    simp only [List.flatten_cons, List.filter_append, List.getElem_cons_zero]
    have hx : x.filter (fun e => decide (f e = c.1)) = x := List.filter_eq_self.2 fun e he => by
      have h3 := hd 0 (by simp) (by simp) e he
      simp only [List.getElem_cons_zero] at h3
      exact decide_eq_true h3
    have hy : E.flatten.filter (fun e => decide (f e = c.1)) = [] := List.filter_eq_nil_iff.2 fun e he => by
      obtain ⟨j, hj, he⟩ := mem_flatten_get.1 he
      have h3 := hd (j + 1) (by simp; omega) (by simp; omega) e he
      have h4 := hc _ (List.getElem_mem (show j < m.length by omega))
      simp only [List.getElem_cons_succ] at h3
      simp; omega
    rw [hx, hy, List.append_nil]
  | x :: E, c :: m, hE, hr, hd, i + 1, h1, h2 => by
    obtain ⟨hc, hr'⟩ := List.pairwise_cons.1 hr
    simp only [List.length_cons, Nat.add_right_cancel_iff] at hE
    simp only [List.length_cons, Nat.add_lt_add_iff_right] at h1 h2
    simp only [List.flatten_cons, List.filter_append, List.getElem_cons_succ]
    have hx : x.filter (fun e => decide (f e = m[i].1)) = [] := List.filter_eq_nil_iff.2 fun e he => by
      have h3 := hd 0 (by simp) (by simp) e he
      have h4 := hc _ (List.getElem_mem h1)
      simp only [List.getElem_cons_zero] at h3
      simp; omega
    have ih := flatten_filter hE hr' (fun j h3 h4 e he => hd (j + 1) (by simp; omega) (by simp; omega) e he) i h1 h2
    rw [hx, ih, List.nil_append]

/-- a node, or nobody -/
def NodeO (h : Array Obj) (k : Nat) (o : Option Nat) (n : Nat) (l : List Ent) : Prop :=
  match o with
  | none => l = []
  | some b => NodeRep h k b n l
theorem NodeO.ext {h h' : Array Obj} (x : HExt h h') {k n : Nat} {o : Option Nat} {l : List Ent} (r : NodeO h k o n l) : NodeO h' k o n l := by
  cases o with
  | none => exact r
  | some b => exact NodeRep.ext x r

/-- the entries at an address of a level -/
def atA (L a : Nat) (l : List Ent) : List Ent := l.filter fun e => decide (dig L e.1 = a)

theorem nil_get_spec (addr : Int) (w : World) : CallK Try.prog F_slots_Slots_node_Node_Get [nilp, I addr] (fun r w' => w = w' ∧ r = .tuple #[nilp, .bool false]) w := by
  refine e_slots_Slots_node_Node_Get rfl ?_
  exact ⟨rfl, rfl⟩
theorem nil_from_spec (addr : Int) (w : World) : CallK Try.prog F_slots_Slots_node_Node_From [nilp, I addr] (fun r w' => w = w' ∧ r = .tuple #[I 0, nilp, .bool false]) w := by
  refine e_slots_Slots_node_Node_From rfl ?_
  exact ⟨rfl, rfl⟩

theorem node_slots_spec {b : Nat} {w : World} {lv pv vv kp : Value} {rest : List Value} (hb : w.heap[b]? = some (.cells ([lv, pv, vv, kp] ++ rest).toArray T_node (0, 0))) :
    CallK Try.prog F_node_Node_slots [ptr b] (fun r w' => w = w' ∧ r = kp) w := by
  refine e_node_Node_slots rfl ?_
  refine ⟨by decide, ldB hb rfl ?_⟩
  exact ⟨rfl, rfl⟩
theorem nil_slots_spec (w : World) : CallK Try.prog F_node_Node_slots [nilp] (fun r w' => w = w' ∧ r = nilp) w := by
  refine e_node_Node_slots rfl ?_
  exact ⟨rfl, rfl⟩

theorem kid_spec {k b L : Nat} {l : List Ent} {w : World} {h0 : Array Obj} (r : NodeRep h0 k b (L + 1) l) (x0 : HExt h0 w.heap) (a : Nat) :
    CallK Try.prog F_node_Node_Kid [ptr b, I a] (fun r w' => Ext w w' ∧ ∃ o n', r = ptrO o ∧ n' ≤ L ∧ NodeO h0 k o n' (atA L a l)) w := by
  cases r with
  | node _ _ pre pv sb m E Ls hb hp hk hs h2 hE hL kids hLs hd hcut =>
    refine e_node_Node_Kid rfl ?_
    refine cl (node_slots_spec (x0.blk hb)) ?_
    rintro _ _ ⟨rfl, rfl⟩
    refine cl (get_spec (hs.ext x0) a) ?_
    rintro _ w1 ⟨hx, o, rfl, ho⟩
    cases o with
    | none =>
      refine ⟨hx, none, 0, rfl, Nat.zero_le _, List.filter_eq_nil_iff.2 fun e he => ?_⟩
      obtain ⟨i, hi, he⟩ := mem_flatten_get.1 he
      have h3 := (hd i (by omega) hi e he).1
      simp only [decide_eq_true_eq]
      intro e2
      have hmem : (a, m[i].2) ∈ m := by
        have := List.getElem_mem (show i < m.length by omega)
        rwa [show m[i] = (a, m[i].2) from Prod.ext (h3.symm.trans e2) rfl] at this
      have := (ho m[i].2).2 hmem
      cases this
    | some p =>
      obtain ⟨i, hi, ei⟩ := List.getElem_of_mem ((ho p).1 rfl)
      have e1 : m[i].1 = a := by rw [ei]
      have e2 : m[i].2 = p := by rw [ei]
      have hfil := flatten_filter hE hs.rising (f := fun e => dig L e.1) (fun i h1 h2 e he => (hd i h1 h2 e he).1) i hi (by omega)
      have hkid := kids i hi (by omega)
      refine ⟨hx, some p, Ls i, rfl, hLs i hi, ?_⟩
      show NodeRep h0 k p (Ls i) (atA L a E.flatten)
      unfold atA
      rw [e1] at hfil
      rw [hfil, ← e2]
      exact hkid

/-- what From answers of a node: the kid with the least address from one on -/
def FromOf (h : Array Obj) (k L : Nat) (l : List Ent) (addr : Int) (r : Value) : Prop :=
  (r = .tuple #[I 0, nilp] ∧ ∀ e ∈ l, (dig L e.1 : Int) < addr) ∨
  ∃ a p n' : Nat, r = .tuple #[I a, ptr p] ∧ addr ≤ a ∧ a < 2 ^ k ∧ n' ≤ L ∧ NodeRep h k p n' (atA L a l) ∧ ∀ e ∈ l, dig L e.1 < a → (dig L e.1 : Int) < addr

theorem node_from_spec {k b L : Nat} {l : List Ent} {w : World} {h0 : Array Obj} (r : NodeRep h0 k b (L + 1) l) (x0 : HExt h0 w.heap) (addr : Int) :
    CallK Try.prog F_node_Node_From [ptr b, I addr] (fun r w' => Ext w w' ∧ FromOf h0 k L l addr r) w := by
  cases r with
  | node _ _ pre pv sb m E Ls hb hp hk hs h2 hE hL kids hLs hd hcut =>
    refine e_node_Node_From rfl ?_
    refine cl (node_slots_spec (x0.blk hb)) ?_
    rintro _ _ ⟨rfl, rfl⟩
    refine cl (from_spec (hs.ext x0) addr) ?_
    rintro _ w1 ⟨hx, i, rfl, hf⟩
    rcases Nat.lt_or_ge i m.length with hi | hi
    · rw [List.getElem?_eq_getElem hi]
      refine ⟨hx, .inr ⟨m[i].1, m[i].2, Ls i, rfl, hf.hi i hi (Nat.le_refl _), hs.small _ (List.getElem_mem hi), hLs i hi, ?_, fun e he hlt => ?_⟩⟩
      · have hfil := flatten_filter hE hs.rising (f := fun e => dig L e.1) (fun i h1 h2 e he => (hd i h1 h2 e he).1) i hi (by omega)
        unfold atA
        rw [hfil]
        exact kids i hi (by omega)
      · obtain ⟨j, hj, he⟩ := mem_flatten_get.1 he
        have h3 := (hd j (by omega) hj e he).1
        rcases Nat.lt_or_ge j i with g | g
        · have := hf.lo j (by omega) g; omega
        · have := hs.rising.at_le g (by omega); omega
    · rw [List.getElem?_eq_none hi]
      refine ⟨hx, .inl ⟨rfl, fun e he => ?_⟩⟩
      obtain ⟨j, hj, he⟩ := mem_flatten_get.1 he
      have h3 := (hd j (by omega) hj e he).1
      have := hf.lo j (by omega) (by omega)
      omega

end Go.Proofs.Ytlpndcfkjkbeoaa

namespace Go.Proofs.Ytlpndcfkjkbeoaa
open Go Go.Pan

/-! ### nodes: made -/

theorem flatten_snoc {E : List (List Ent)} {j : Nat} (hj : j < E.length) : (E.take (j + 1)).flatten = (E.take j).flatten ++ E[j] := by
  rw [take_snoc E j hj, List.flatten_append]; simp

theorem sumsV_append {A B : List Ent} (hA : A ≠ []) (hB : B ≠ []) : sumsV (A ++ B) = [U ((A.length % 2 ^ 64 + B.length % 2 ^ 64) % 2 ^ 64), U ((sumV A % 2 ^ 64 + sumV B % 2 ^ 64) % 2 ^ 64), U (min (minV A) (minV B)), U (max (maxV A) (maxV B))] := by
  unfold sumsV
  rw [minV_append hA hB, maxV_append hA hB, List.length_append]
  have : sumV (A ++ B) = sumV A + sumV B := by simp [sumV]
  rw [this, ← Nat.add_mod, ← Nat.add_mod]

theorem add_u64 (a b : Nat) : IntKind.u64.wrap ((a : Int) + (b : Int)) = (((a + b) % 2 ^ 64 : Nat) : Int) := by
  rw [wru64m]; omega

set_option maxHeartbeats 1000000 in
theorem made_spec {k L sb : Nat} {m : List (Nat × Nat)} {E : List (List Ent)} {Ls : Nat → Nat} {pre : List Nat} {pv : Value} {w : World} (hp : Sl w.heap pv pre) (hk : pre.length = k) (hs : SlotsRep w.heap sb k m) (h2 : 2 ≤ m.length) (hE : E.length = m.length) (hL : L < 64)
    (kids : ∀ i (h1 : i < m.length) (h2 : i < E.length), NodeRep w.heap k m[i].2 (Ls i) E[i]) (hLs : ∀ i, i < m.length → Ls i ≤ L)
    (hd : ∀ i (h1 : i < m.length) (h2 : i < E.length), ∀ e ∈ E[i], dig L e.1 = m[i].1 ∧ shr (L + 1) e.1 = shr (L + 1) pre) (hcut : cutN (L + 1) pre = pre) :
    CallK Try.prog F_node_made [I L, pv, ptr sb] (fun r w' => Ext w w' ∧ ∃ b, r = ptr b ∧ NodeRep w'.heap k b (L + 1) E.flatten) w := by
  have hml := hs.len
  obtain ⟨pa, pcap, rfl⟩ := hp.form
  refine e_node_made rfl ?_
  refine al ?_
  intro nb w1 hnb hx1 hsz1 hblk1
  have hblk1' : w1.heap[nb]? = some (.cells ([I L, .slice pa pre.length pcap, U 0, ptr sb] ++ [U 0, U 0, U 0, U 0]).toArray T_node (0, 0)) := hblk1
  refine cl (all_spec (hs.ext hx1.1)) ?_
  rintro v w2 ⟨hx2, hr2, hown2⟩
  obtain ⟨a, cap, rfl⟩ := hr2.form
  have hx02 := hx1.trans hx2
  have hne : ∀ j, j < m.length → ∀ h : j < E.length, E[j] ≠ [] := fun j hj h => (kids j hj h).ne
  have hnet : ∀ j, 0 < j → j ≤ m.length → (E.take j).flatten ≠ [] := fun j h0 h => by
    obtain ⟨e, he⟩ := List.exists_mem_of_ne_nil _ (hne 0 (by omega) (by omega))
    refine List.ne_nil_of_mem (a := e) (mem_flatten_get.2 ⟨0, by rw [List.length_take]; omega, ?_⟩)
    rw [List.getElem_take]; exact he
  have hown3 : ∀ g, (Value.slice a m.length cap).ownBlock = some g → g ≠ nb := fun g hg => by have := hown2 g hg; omega
  refine lp (fun j : Nat => [(7, ptr nb), (17, .slice a m.length cap), (18, I m.length), (19, I j)])
    (fun j w' => Ext w w' ∧ nb < w'.heap.size ∧ j ≤ m.length ∧ Rw w'.heap (.slice a m.length cap) m.length (m.map fun c => ptr c.2) ∧
      w'.heap[nb]? = some (.cells ([I L, .slice pa pre.length pcap, U 0, ptr sb] ++ (if j = 0 then [U 0, U 0, U 0, U 0] else sumsV (E.take j).flatten)).toArray T_node (0, 0))) (fun j => m.length - j) 0 ⟨rfl, rfl, rfl, rfl, trivial⟩
    ⟨hx02, by have := hx2.1.1; omega, Nat.zero_le _, hr2, by rw [if_pos rfl]; exact hx2.blk hblk1'⟩ ?_
  rintro j e0 w3 ⟨hx3, hnb3, hj, hr3, hb3⟩
  refine ts (fun g => ?_) (fun g => ?_)
  · have hj' : j < m.length := by omega
    have hjE : j < E.length := by omega
    obtain ⟨gb, go, rfl, hcs⟩ := hr3.place (by omega)
    refine ix rfl hj' ?_
    refine ld (v := ptr m[j].2) (hcs.get (by rw [Nat.mul_one]; simp [hj'])) ?_
    have hkid := (kids j hj' hjE).ext hx3.1
    obtain ⟨kpv, kpre, kv, ko, hkb, -⟩ := hkid.head.ex
    refine ⟨by decide, ?_⟩
    refine ldC (cs := sumsV E[j]) (celsAt_blk (o := 4) hkb rfl) rfl ?_
    refine al ?_
    intro sb2 w4 hsb2 hx4 hsz4 hblk4
    refine st hblk4 rfl rfl (sumsV_flat _) ?_
    intro w5 u5
    have hx35 : Ext w3 w5 := hx4.upd (show w3.heap.size ≤ sb2 by omega) u5
    have hb5 : w5.heap[sb2]? = some (.cells (sumsV E[j]).toArray T_api_Sums (0, 0)) := u5.new
    have hnb5 := hx35.blk hb3
    have hwnb : w.heap.size ≤ nb := by omega
    have hgnb : gb ≠ nb := hown3 gb rfl
    refine ts (fun g2 => ?_) (fun g2 => ?_)
    · have hj0 : j = 0 := by omega
      subst hj0
      refine ldC (cs := sumsV E[0]) (celsAt_blk (o := 0) hb5 rfl) rfl ?_
      refine ⟨by decide, ?_⟩
      refine st hnb5 rfl rfl (sumsV_flat _) ?_
      intro w6 u6
      have hb6 : w6.heap[nb]? = some (.cells ([I L, .slice pa pre.length pcap, U 0, ptr sb] ++ sumsV E[0]).toArray T_node (0, 0)) := u6.new
      refine nm (inc64 (by omega)) ?_
      refine ⟨1, ⟨⟨rfl, rfl, rfl, rfl, trivial⟩, (hx3.trans hx35).upd hwnb u6, ?_, hj', rw_upd u6 hown3 (hr3.ext hx35.1), ?_⟩, by omega⟩
      · rw [u6.1]; have := hx35.1.1; omega
      · rw [if_neg (by omega), flatten_snoc hjE]
        exact hb6
    · have hj0 : 0 < j := by omega
      rw [if_neg (by omega)] at hnb5
      refine ⟨by decide, ⟨by decide, ldB hnb5 rfl ?_⟩⟩
      refine ⟨by decide, ldB hb5 rfl ?_⟩
      refine nm (add_u64 _ _) ?_
      refine ⟨by decide, ⟨by decide, ldB hnb5 rfl ?_⟩⟩
      refine ⟨by decide, ldB hb5 rfl ?_⟩
      refine nm (add_u64 _ _) ?_
      refine ⟨by decide, ⟨by decide, ldB hnb5 rfl ?_⟩⟩
      refine ⟨by decide, ldB hb5 rfl ?_⟩
      refine ⟨((min (minV (E.take j).flatten) (minV E[j]) : Nat) : Int), by split <;> omega, ?_⟩
      refine ⟨by decide, ⟨by decide, ldB hnb5 rfl ?_⟩⟩
      refine ⟨by decide, ldB hb5 rfl ?_⟩
      refine ⟨((max (maxV (E.take j).flatten) (maxV E[j]) : Nat) : Int), by split <;> omega, ?_⟩
      refine ⟨by decide, ?_⟩
      refine st (w := drw w5) hnb5 rfl rfl rfl ?_
      intro w6 u6
      have hb6 : w6.heap[nb]? = some (.cells ([I L, .slice pa pre.length pcap, U 0, ptr sb] ++ [U (((E.take j).flatten.length % 2 ^ 64 + E[j].length % 2 ^ 64) % 2 ^ 64 : Nat), U ((sumV (E.take j).flatten % 2 ^ 64 + sumV E[j] % 2 ^ 64) % 2 ^ 64 : Nat), U (min (minV (E.take j).flatten) (minV E[j]) : Nat), U (max (maxV (E.take j).flatten) (maxV E[j]) : Nat)]).toArray T_node (0, 0)) := u6.new
      rw [← sumsV_append (hnet j hj0 hj) (hne j hj' hjE), ← flatten_snoc hjE] at hb6
      refine nm (inc64 (by omega)) ?_
      refine ⟨j + 1, ⟨⟨rfl, rfl, rfl, rfl, trivial⟩, ((hx3.trans hx35).trans (Ext.drw w5)).upd hwnb u6, ?_, hj', rw_upd u6 hown3 (hr3.ext hx35.1), ?_⟩, by omega⟩
      · rw [u6.1]; have := hx35.1.1; show nb < w5.heap.size; omega
      · rw [if_neg (by omega)]; exact hb6
  · have hj' : j = m.length := by omega
    subst hj'
    rw [if_neg (by omega), List.take_of_length_le (by omega)] at hb3
    exact ⟨hx3, nb, rfl, .node nb L pre _ sb m E Ls hb3 (hp.ext hx3.1) hk (hs.ext hx3.1) h2 hE hL (fun i h1 h2 => (kids i h1 h2).ext hx3.1) hLs hd hcut⟩

end Go.Proofs.Ytlpndcfkjkbeoaa

namespace Go.Proofs.Ytlpndcfkjkbeoaa
open Go Go.Pan

/-! ### nodes: Leaf, With, Without -/

theorem shr_up {p q : List Nat} {n m : Nat} (h : shr n p = shr n q) (hnm : n ≤ m) : shr m p = shr m q := by
  have e : ∀ r : List Nat, shr m r = shr (m - n) (shr n r) := fun r => by rw [shr_shr, Nat.add_sub_cancel' hnm]
  rw [e, e, h]
theorem dig_up {p q : List Nat} {n m : Nat} (h : shr n p = shr n q) (hnm : n ≤ m) : dig m p = dig m q := by
  unfold dig
  rw [shr_up h hnm]
theorem dig0_mod : ∀ (p : List Nat), dig0 p = dig0 (p.map (· % 2))
  | [] => rfl
  | c :: p => by
    have := dig0_mod p
    simp only [dig0, List.map_cons, List.length_map, Nat.mod_mod]
    rw [← this]
/-- one level down: the digit tells the rest -/
theorem shr_down {p q : List Nat} {n : Nat} (hl : p.length = q.length) (h : shr (n + 1) p = shr (n + 1) q) (hd : dig n p = dig n q) : shr n p = shr n q := by
  refine map_half_inj _ _ ?_ (dig0_inj _ _ (by simp [shr_length, hl]) hd)
  rw [shr_shr, shr_shr]; exact h

theorem mem_atA {L a : Nat} {l : List Ent} {e : Ent} : e ∈ atA L a l ↔ e ∈ l ∧ dig L e.1 = a := by simp [atA]

theorem NodeRep.kids {h : Array Obj} {k b L : Nat} {l : List Ent} (r : NodeRep h k b (L + 1) l) :
    ∃ (pre : List Nat) (pv : Value) (sb : Nat) (m : List (Nat × Nat)), h[b]? = some (.cells ([I L, pv, U 0, ptr sb] ++ sumsV l).toArray T_node (0, 0)) ∧ Sl h pv pre ∧ pre.length = k ∧ SlotsRep h sb k m ∧ 2 ≤ m.length ∧ L < 64 ∧
      (∀ c ∈ m, ∃ n', n' ≤ L ∧ NodeRep h k c.2 n' (atA L c.1 l)) ∧ (∀ e ∈ l, shr (L + 1) e.1 = shr (L + 1) pre ∧ ∃ p, (dig L e.1, p) ∈ m) ∧ cutN (L + 1) pre = pre := by
  cases r with
  | node _ _ pre pv sb m E Ls hb hp hk hs h2 hE hL kids hLs hd hcut =>
    refine ⟨pre, pv, sb, m, hb, hp, hk, hs, h2, hL, fun c hc => ?_, fun e he => ?_, hcut⟩
    · obtain ⟨i, hi, rfl⟩ := List.getElem_of_mem hc
      have hfil := flatten_filter hE hs.rising (f := fun e => dig L e.1) (fun i h1 h2 e he => (hd i h1 h2 e he).1) i hi (by omega)
      refine ⟨Ls i, hLs i hi, ?_⟩
      unfold atA
      rw [hfil]
      exact kids i hi (by omega)
    · obtain ⟨i, hi, he⟩ := mem_flatten_get.1 he
      have := hd i (by omega) hi e he
      refine ⟨this.2, m[i].2, ?_⟩
      rw [this.1]
      exact List.getElem_mem (show i < m.length by omega)

theorem made_spec' {k L sb : Nat} {m : List (Nat × Nat)} {F : Nat × Nat → List Ent} {pre : List Nat} {pv : Value} {w : World} (hp : Sl w.heap pv pre) (hk : pre.length = k) (hs : SlotsRep w.heap sb k m) (h2 : 2 ≤ m.length) (hL : L < 64)
    (kids : ∀ c ∈ m, (∃ n', n' ≤ L ∧ NodeRep w.heap k c.2 n' (F c)) ∧ ∀ e ∈ F c, dig L e.1 = c.1 ∧ shr (L + 1) e.1 = shr (L + 1) pre) (hcut : cutN (L + 1) pre = pre) :
    CallK Try.prog F_node_made [I L, pv, ptr sb] (fun r w' => Ext w w' ∧ ∃ b, r = ptr b ∧ NodeRep w'.heap k b (L + 1) (m.flatMap F)) w := by
  have hget : ∀ i (h1 : i < m.length) (h2 : i < (m.map F).length), (m.map F)[i] = F m[i] := fun i h1 h2 => by simp
  have := made_spec (E := m.map F) (Ls := fun i => if h : i < m.length then Classical.choose (kids m[i] (List.getElem_mem h)).1 else 0) hp hk hs h2 (by simp) hL
    (fun i h1 h2 => by
      rw [hget i h1 h2]
      simp only [h1, dif_pos]
      exact (Classical.choose_spec (kids m[i] (List.getElem_mem h1)).1).2)
    (fun i h1 => by
      simp only [h1, dif_pos]
      exact (Classical.choose_spec (kids m[i] (List.getElem_mem h1)).1).1)
    (fun i h1 h2 e he => by
      rw [hget i h1 h2] at he
      exact (kids m[i] (List.getElem_mem h1)).2 e he) hcut
  exact this

theorem leaf_spec {v : Value} {p : List Nat} {w : World} (s : Sl w.heap v p) (h1 : 1 ≤ p.length) (h16 : p.length ≤ 16) {x : Nat} (hx : x < 2 ^ 64) :
    CallK Try.prog F_node_Leaf [v, U x] (fun r w' => Ext w w' ∧ ∃ b, r = .tuple #[ptr b, I 0] ∧ NodeRep w'.heap p.length b 0 [(p, x)]) w := by
  obtain ⟨a, cap, rfl⟩ := s.form
  refine e_node_Leaf rfl ?_
  refine cl (right_spec _ _ _ _) ?_
  rintro _ _ ⟨rfl, rfl⟩
  rw [rightB_t h1 h16]
  refine cl (clone_spec s (by omega)) ?_
  rintro pv w1 ⟨hx1, hs1, hfr⟩
  have hne : p ≠ [] := fun e => by rw [e] at h1; simp at h1
  obtain ⟨cb, cap', rest, rfl, hcb, hcblk⟩ := hfr hne
  refine al ?_
  intro nb w2 hnb hx2 hsz2 hblk2
  have hb2 : w2.heap[nb]? = some (.cells ([I (-1), .slice (some ⟨cb, 0, none⟩) p.length cap', U x, nilp] ++ [U 1, U x, U x, U x]).toArray T_node (0, 0)) := hblk2
  refine ⟨hx1.trans hx2, nb, rfl, .leaf nb p x _ ?_ (hs1.ext hx2.1) rfl h1 h16 hx⟩
  have e : sumsV [(p, x)] = [U 1, U x, U x, U x] := by
    unfold sumsV sumV
    simp only [List.length_singleton, List.map_cons, List.map_nil, List.sum_cons, List.sum_nil, Nat.add_zero]
    rw [Nat.mod_eq_of_lt hx]
    rfl
  rw [e]; exact hb2

theorem node_at_spec {k b n : Nat} {l : List Ent} {w : World} (r : NodeRep w.heap k b n l) {L a : Nat} (hL : L < 64) (hn : n ≤ L) (ha : ∀ e ∈ l, dig L e.1 = a) :
    CallK Try.prog F_node_Node_at [ptr b, I L] (fun r w' => w = w' ∧ r = I a) w := by
  obtain ⟨pv, pre, v, o, hb, hp, hk, hpre, -⟩ := r.head.ex
  have hk1 := r.k1
  obtain ⟨e0, he0⟩ := List.exists_mem_of_ne_nil _ r.ne
  have hd : dig L pre = a := by rw [← dig_up (hpre e0 he0) hn]; exact ha e0 he0
  refine e_node_Node_at rfl ?_
  refine ⟨by decide, ldB hb rfl ?_⟩
  refine cl (addr_spec hp (by omega) hL) ?_
  rintro _ _ ⟨rfl, rfl⟩
  rw [hd]
  exact ⟨rfl, rfl⟩

/-- entries with some at an address put in the place of those there -/
structure Put1 (L a : Nat) (l lk l' : List Ent) : Prop where
  mem : ∀ e, e ∈ l' ↔ e ∈ lk ∨ e ∈ l ∧ dig L e.1 ≠ a

theorem with_spec {k b L : Nat} {l : List Ent} {w : World} (r : NodeRep w.heap k b (L + 1) l) {kb nk : Nat} {lk : List Ent} (rk : NodeRep w.heap k kb nk lk) (hnk : nk ≤ L) {a : Nat} (ha : ∀ e ∈ lk, dig L e.1 = a) (hsh : ∀ e ∈ lk, ∀ f ∈ l, shr (L + 1) e.1 = shr (L + 1) f.1) :
    CallK Try.prog F_node_Node_With [ptr b, ptr kb] (fun r w' => Ext w w' ∧ ∃ b' l', r = .tuple #[ptr b', I 0] ∧ NodeRep w'.heap k b' (L + 1) l' ∧ Put1 L a l lk l') w := by
  obtain ⟨pre, pv, sb, m, hb, hp, hk, hs, h2, hL, hkids, hl, hcut⟩ := r.kids
  obtain ⟨kpv, kpre, kv, ko, hkb, hkp, hkk, hkpre, -, -, -, -⟩ := rk.head.ex
  have hk1 := r.k1
  obtain ⟨e0, he0⟩ := List.exists_mem_of_ne_nil _ rk.ne
  obtain ⟨f0, hf0⟩ := List.exists_mem_of_ne_nil _ r.ne
  have halt : a < 2 ^ k := by
    have := dig_lt L e0.1
    rw [ha e0 he0, (rk.ok e0 he0).1] at this
    exact this
  obtain ⟨pa, pcap, rfl⟩ := hp.form
  obtain ⟨kpa, kpcap, rfl⟩ := hkp.form
  refine e_node_Node_With rfl ?_
  refine ⟨by decide, ldB hb rfl ?_⟩
  refine ⟨by decide, ldB hb rfl ?_⟩
  refine ⟨by decide, ldB hkb rfl ?_⟩
  refine tsT (by omega) ?_
  refine ⟨by decide, ldB hkb rfl ?_⟩
  refine cl (node_covers_spec (w := drw (drw w)) r hkp) ?_
  rintro _ _ ⟨rfl, rfl⟩
  refine ⟨Ext.refl _, ?_⟩
  rw [decide_eq_true ⟨hkk, fun f hf => (hsh e0 he0 f hf).symm.trans (shr_up (hkpre e0 he0) (by omega))⟩]
  refine ⟨by decide, ldB hkb rfl ?_⟩
  refine ⟨by decide, ldB hb rfl ?_⟩
  refine tsF (by omega) ?_
  refine ⟨by decide, ldB hb rfl ?_⟩
  refine ⟨by decide, ldB hb rfl ?_⟩
  refine cl (node_at_spec (w := drw (drw (drw w))) rk hL hnk ha) ?_
  rintro _ _ ⟨rfl, rfl⟩
  refine ⟨Ext.refl _, ?_⟩
  refine cl (slots_put_spec (w := drw (drw (drw w))) hs hk1.1 hk1.2 halt kb) ?_
  rintro _ w1 ⟨hx1, sb', rfl, hs'⟩
  have hx : Ext w w1 := hx1
  refine ⟨hx1, ?_⟩
  refine ⟨by decide, ldB (hx.blk hb) rfl ?_⟩
  refine ⟨by decide, ldB (hx.blk hb) rfl ?_⟩
  have hlen : 2 ≤ (insM a kb m).length := by
    have hnd : ∀ c ∈ m, ∃ p, (c.1, p) ∈ insM a kb m := fun c hc => by
      by_cases e : c.1 = a
      · exact ⟨kb, mem_insM.2 (.inl (by rw [e]))⟩
      · exact ⟨c.2, mem_insM.2 (.inr ⟨hc, e⟩)⟩
    obtain ⟨p0, h0⟩ := hnd m[0] (List.getElem_mem (by omega))
    obtain ⟨p1, h1⟩ := hnd m[1] (List.getElem_mem (by omega))
    have hlt := hs.rising.at_lt (show 0 < 1 by omega) (show 1 < m.length by omega)
    obtain ⟨i, hi, ei⟩ := List.getElem_of_mem h0
    obtain ⟨j, hj, ej⟩ := List.getElem_of_mem h1
    have : i ≠ j := fun e => by subst e; rw [ei] at ej; have := congrArg Prod.fst ej; simp only at this; omega
    omega
  refine cl (made_spec' (w := drw w1) (m := insM a kb m) (F := fun c => if c.1 = a then lk else atA L c.1 l) (hp.ext hx.1) hk hs' hlen hL (fun c hc => ?_) hcut) ?_
  · rcases mem_insM.1 hc with rfl | ⟨hc, hne⟩
    · simp only [if_true]
      exact ⟨⟨nk, hnk, rk.ext hx.1⟩, fun e he => ⟨ha e he, (hsh e he f0 hf0).trans (hl f0 hf0).1⟩⟩
    · simp only [hne, if_false]
      obtain ⟨n', hn', rn⟩ := hkids c hc
      exact ⟨⟨n', hn', rn.ext hx.1⟩, fun e he => ⟨(mem_atA.1 he).2, (hl e (mem_atA.1 he).1).1⟩⟩
  rintro _ w2 ⟨hx2, b', rfl, rn⟩
  refine ⟨hx2, ?_⟩
  refine ⟨hx.trans hx2, b', _, rfl, rn, ⟨fun e => ?_⟩⟩
  rw [List.mem_flatMap]
  constructor
  · rintro ⟨c, hc, he⟩
    rcases mem_insM.1 hc with rfl | ⟨hc, hne⟩
    · simp only [if_true] at he; exact .inl he
    · simp only [hne, if_false] at he
      have := mem_atA.1 he
      exact .inr ⟨this.1, by rw [this.2]; exact hne⟩
  · rintro (he | ⟨he, hne⟩)
    · exact ⟨(a, kb), mem_insM.2 (.inl rfl), by simp only [if_true]; exact he⟩
    · obtain ⟨p, hp⟩ := (hl e he).2
      exact ⟨(dig L e.1, p), mem_insM.2 (.inr ⟨hp, hne⟩), by simp only [hne, if_false]; exact mem_atA.2 ⟨he, rfl⟩⟩

theorem without_spec {k b L : Nat} {l : List Ent} {w : World} (r : NodeRep w.heap k b (L + 1) l) {a : Nat} (ha : ∃ e ∈ l, dig L e.1 = a) :
    CallK Try.prog F_node_Node_Without [ptr b, I a] (fun r w' => Ext w w' ∧ ∃ b' n' l', r = .tuple #[ptr b', I 0] ∧ n' ≤ L + 1 ∧ NodeRep w'.heap k b' n' l' ∧ Put1 L a l [] l') w := by
  obtain ⟨pre, pv, sb, m, hb, hp, hk, hs, h2, hL, hkids, hl, hcut⟩ := r.kids
  have hk1 := r.k1
  obtain ⟨f0, hf0, rfl⟩ := ha
  obtain ⟨p0, hp0⟩ := (hl f0 hf0).2
  generalize hA : dig L f0.1 = a at *
  refine e_node_Node_Without rfl ?_
  refine ⟨by decide, ldB hb rfl ?_⟩
  refine ⟨by decide, ldB hb rfl ?_⟩
  refine cl (slots_del_spec hs hk1.1 hk1.2 hp0) ?_
  rintro _ w1 ⟨hx1, sb', rfl, hs'⟩
  refine tsT rfl ?_
  refine cl (slots_len_spec hs') ?_
  rintro _ _ ⟨rfl, rfl⟩
  have hmem : ∀ e, (∃ c ∈ delM a m, e ∈ atA L c.1 l) ↔ e ∈ l ∧ dig L e.1 ≠ a := fun e => by
    constructor
    · rintro ⟨c, hc, he⟩
      have h1 := mem_delM.1 hc
      have h2 := mem_atA.1 he
      exact ⟨h2.1, by rw [h2.2]; exact h1.2⟩
    · rintro ⟨he, hne⟩
      obtain ⟨p, hp⟩ := (hl e he).2
      exact ⟨(dig L e.1, p), mem_delM.2 ⟨hp, hne⟩, mem_atA.2 ⟨he, rfl⟩⟩
  have hpos : 0 < (delM a m).length := by
    have h01 := hs.rising.at_lt (show 0 < 1 by omega) (show 1 < m.length by omega)
    by_cases e : m[0].1 = a
    · exact List.length_pos_of_mem (mem_delM.2 ⟨List.getElem_mem (show 1 < m.length by omega), by omega⟩)
    · exact List.length_pos_of_mem (mem_delM.2 ⟨List.getElem_mem (show 0 < m.length by omega), e⟩)
  refine ts (fun g => ?_) (fun g => ?_)
  · have g1 : (delM a m).length = 1 := by omega
    refine cl (all_spec hs') ?_
    rintro v w2 ⟨hx2, hr2, -⟩
    obtain ⟨va, vcap, rfl⟩ := hr2.form
    obtain ⟨gb, go, rfl, hcs⟩ := hr2.place (by omega)
    have hc0 : (delM a m)[0] ∈ delM a m := List.getElem_mem (by omega)
    obtain ⟨n', hn', rn⟩ := hkids _ (mem_delM.1 hc0).1
    refine ix (j := 0) rfl (by omega) ?_
    refine ld (v := ptr (delM a m)[0].2) (hcs.get (j := 0 * 1) (by simp [hpos])) ?_
    refine ⟨hx1.trans hx2, _, n', _, rfl, by omega, rn.ext (hx1.1.trans hx2.1), ⟨fun e => ?_⟩⟩
    rw [show (e ∈ ([] : List Ent) ∨ e ∈ l ∧ dig L e.1 ≠ a) ↔ (e ∈ l ∧ dig L e.1 ≠ a) from by simp, ← hmem e]
    constructor
    · intro he; exact ⟨_, hc0, he⟩
    · rintro ⟨c, hc, he⟩
      obtain ⟨i, hi, rfl⟩ := List.getElem_of_mem hc
      have : i = 0 := by omega
      subst this; exact he
  · refine ⟨by decide, ldB (hx1.blk hb) rfl ?_⟩
    refine ⟨by decide, ldB (hx1.blk hb) rfl ?_⟩
    refine cl (made_spec' (w := drw w1) (m := delM a m) (F := fun c => atA L c.1 l) (hp.ext hx1.1) hk hs' (by omega) hL (fun c hc => ?_) hcut) ?_
    · obtain ⟨n', hn', rn⟩ := hkids c (mem_delM.1 hc).1
      exact ⟨⟨n', hn', rn.ext hx1.1⟩, fun e he => ⟨(mem_atA.1 he).2, (hl e (mem_atA.1 he).1).1⟩⟩
    rintro _ w2 ⟨hx2, b', rfl, rn⟩
    refine ⟨hx2, ?_⟩
    refine ⟨hx1.trans hx2, b', L + 1, _, rfl, Nat.le_refl _, rn, ⟨fun e => ?_⟩⟩
    rw [List.mem_flatMap, hmem e]
    simp

end Go.Proofs.Ytlpndcfkjkbeoaa

namespace Go.Proofs.Ytlpndcfkjkbeoaa
open Go Go.Pan

theorem shr_cutN (n : Nat) (p : List Nat) : shr n (cutN n p) = shr n p := by
  unfold shr cutN
  rw [List.map_map]
  apply List.map_congr_left
  intro c _
  exact Nat.mul_div_cancel _ (Nat.two_pow_pos n)
theorem cutN_idem (n : Nat) (p : List Nat) : cutN n (cutN n p) = cutN n p := by
  unfold cutN
  rw [List.map_map]
  apply List.map_congr_left
  intro c _
  show c / 2 ^ n * 2 ^ n / 2 ^ n * 2 ^ n = _
  rw [Nat.mul_div_cancel _ (Nat.two_pow_pos n)]
theorem cutN_length (n : Nat) (p : List Nat) : (cutN n p).length = p.length := by simp [cutN]

set_option maxHeartbeats 1000000 in
theorem pair_spec {k a na b nb L x y : Nat} {la lb : List Ent} {w : World} (ra : NodeRep w.heap k a na la) (rb : NodeRep w.heap k b nb lb) (hL : L < 64) (hna : na ≤ L) (hnb : nb ≤ L)
    (hx : ∀ e ∈ la, dig L e.1 = x) (hy : ∀ e ∈ lb, dig L e.1 = y) (hxy : x ≠ y) (hsh : ∀ e ∈ la, ∀ f ∈ lb, shr (L + 1) e.1 = shr (L + 1) f.1) :
    CallK Try.prog F_node_Pair [ptr a, ptr b] (fun r w' => Ext w w' ∧ ∃ b' l', r = .tuple #[ptr b', I 0] ∧ NodeRep w'.heap k b' (L + 1) l' ∧ ∀ e, e ∈ l' ↔ e ∈ la ∨ e ∈ lb) w := by
  obtain ⟨apv, apre, av, ao, hab, hap, hak, hapre, -, -, -, -⟩ := ra.head.ex
  obtain ⟨bpv, bpre, bv, bo, hbb, hbp, hbk, hbpre, -, -, -, -⟩ := rb.head.ex
  have hk1 := ra.k1
  obtain ⟨e0, he0⟩ := List.exists_mem_of_ne_nil _ ra.ne
  obtain ⟨f0, hf0⟩ := List.exists_mem_of_ne_nil _ rb.ne
  have hdx : dig L apre = x := by rw [← dig_up (hapre e0 he0) hna]; exact hx e0 he0
  have hdy : dig L bpre = y := by rw [← dig_up (hbpre f0 hf0) hnb]; exact hy f0 hf0
  have hshp : shr (L + 1) apre = shr (L + 1) bpre := by
    rw [← shr_up (hapre e0 he0) (show na ≤ L + 1 by omega), ← shr_up (hbpre f0 hf0) (show nb ≤ L + 1 by omega)]
    exact hsh e0 he0 f0 hf0
  have hlen : apre.length = bpre.length := by omega
  have htop : top apre bpre = L + 1 := by
    have h1 : top apre bpre ≤ L + 1 := (top_le hlen).2 hshp
    have h2 : ¬ top apre bpre ≤ L := fun h => by
      have := dig_up ((top_le hlen).1 h) (Nat.le_refl L)
      omega
    omega
  have hxk : x < 2 ^ k := by
    have := dig_lt L apre
    rwa [hak, hdx] at this
  have hyk : y < 2 ^ k := by
    have := dig_lt L bpre
    rwa [hbk, hdy] at this
  obtain ⟨pa, pcap, rfl⟩ := hap.form
  refine e_node_Pair rfl ?_
  refine ⟨by decide, ldB hab rfl ?_⟩
  refine ⟨by decide, ldB hbb rfl ?_⟩
  refine cl (part_spec (w := drw w) hap hbp) ?_
  rintro _ _ ⟨rfl, rfl⟩
  refine ⟨Ext.refl _, ?_⟩
  have hpv : partV apre bpre = .tuple #[I L, I 0] := by
    unfold partV
    rw [if_pos ⟨by omega, by omega, hlen⟩, htop]
    congr 3
    congr 1
    show ((L + 1 : Nat) : Int) - 1 = L
    omega
  rw [hpv]
  refine tsT rfl ?_
  refine ⟨by decide, ldB hab rfl ?_⟩
  refine ⟨by decide, ldB hbb rfl ?_⟩
  refine nm (v := ((max na nb : Nat) : Int) - 1) (by split <;> omega) ?_
  refine tsF (by omega) ?_
  refine ⟨by decide, ldB hab rfl ?_⟩
  rw [hak]
  refine cl (slots_new_spec (w := drw (drw w)) hk1.1 hk1.2) ?_
  rintro _ w1 ⟨sb, rfl, hx1, hs1⟩
  have hx01 : Ext w w1 := hx1
  refine ⟨rfl, rfl, by decide, al ?_⟩
  intro cb w2 hcb hx2 hsz2 hblk2
  have hblk2' : w2.heap[cb]? = some (.cells #[ptr a, ptr b] T_p_node_Node (0, 0)) := hblk2
  have hx02 := hx01.trans hx2
  have hs2 := hs1.ext hx2.1
  -- one more kid
  refine lp (fun s : Nat × Nat => [(0, ptr a), (6, I L), (8, ptr s.2), (57, .slice (some ⟨cb, 0, none⟩) 2 2), (58, I 2), (59, I s.1)])
    (fun s w' => Ext w w' ∧ w'.heap[cb]? = some (.cells #[ptr a, ptr b] T_p_node_Node (0, 0)) ∧ ((s.1 = 0 ∧ SlotsRep w'.heap s.2 k []) ∨ (s.1 = 1 ∧ SlotsRep w'.heap s.2 k (insM x a [])) ∨ (s.1 = 2 ∧ SlotsRep w'.heap s.2 k (insM y b (insM x a []))))) (fun s => 2 - s.1) (0, sb) ⟨rfl, rfl, rfl, rfl, rfl, rfl, trivial⟩ ⟨hx02, hblk2', .inl ⟨rfl, hs2⟩⟩ ?_
  rintro ⟨j, sb3⟩ e w3 ⟨hx3, hcb3, hst⟩
  simp only at hst
  rcases hst with ⟨rfl, hs3⟩ | ⟨rfl, hs3⟩ | ⟨rfl, hs3⟩
  · refine tsT (by simp) ?_
    refine ix (j := 0) rfl (by decide) ?_
    refine ldB hcb3 rfl ?_
    refine cl (node_at_spec (ra.ext hx3.1) hL hna hx) ?_
    rintro _ _ ⟨rfl, rfl⟩
    refine cl (slots_put_spec hs3 hk1.1 hk1.2 hxk a) ?_
    rintro _ w4 ⟨hx4, sb4, rfl, hs4⟩
    refine nm (v := ((1 : Nat) : Int)) (wr64 rfl (by decide) (by decide)) ?_
    exact ⟨(1, sb4), ⟨⟨rfl, rfl, rfl, rfl, rfl, rfl, trivial⟩, hx3.trans hx4, hx4.blk hcb3, .inr (.inl ⟨rfl, hs4⟩)⟩, by simp only; omega⟩
  · refine tsT (by simp) ?_
    refine ix (j := 1) rfl (by decide) ?_
    refine ldB hcb3 rfl ?_
    refine cl (node_at_spec (rb.ext hx3.1) hL hnb hy) ?_
    rintro _ _ ⟨rfl, rfl⟩
    refine cl (slots_put_spec hs3 hk1.1 hk1.2 hyk b) ?_
    rintro _ w4 ⟨hx4, sb4, rfl, hs4⟩
    refine nm (v := ((2 : Nat) : Int)) (wr64 rfl (by decide) (by decide)) ?_
    exact ⟨(2, sb4), ⟨⟨rfl, rfl, rfl, rfl, rfl, rfl, trivial⟩, hx3.trans hx4, hx4.blk hcb3, .inr (.inr ⟨rfl, hs4⟩)⟩, by simp only; omega⟩
  · refine tsF (by simp) ?_
    refine ⟨by decide, ldB (hx3.blk hab) rfl ?_⟩
    refine cl (cut_spec (n := L + 1) (hap.ext hx3.1) (by omega) (by omega) (by omega)) ?_
    rintro _ w4 ⟨u, rfl, hx4, hfr⟩
    have hmem : ∀ c, c ∈ insM y b (insM x a []) ↔ c = (y, b) ∨ c = (x, a) := fun c => by
      rw [mem_insM, mem_insM]
      constructor
      · rintro (h | ⟨h | ⟨h, -⟩, -⟩)
        · exact .inl h
        · exact .inr h
        · cases h
      · rintro (h | h)
        · exact .inl h
        · exact .inr ⟨.inl h, by rw [h]; exact hxy⟩
    have hl2 : 2 ≤ (insM y b (insM x a [])).length := by
      obtain ⟨i, hi, ei⟩ := List.getElem_of_mem ((hmem (y, b)).2 (.inl rfl))
      obtain ⟨j, hj, ej⟩ := List.getElem_of_mem ((hmem (x, a)).2 (.inr rfl))
      have : i ≠ j := fun e => by subst e; rw [ei] at ej; exact hxy (congrArg Prod.fst ej).symm
      omega
    have hx34 := hx3.trans hx4
    refine cl (made_spec' (m := insM y b (insM x a [])) (F := fun c => if c.1 = x then la else lb) hfr.sl (by rw [cutN_length]; exact hak) (hs3.ext hx4.1) hl2 hL (fun c hc => ?_) (cutN_idem _ _)) ?_
    · rcases (hmem c).1 hc with rfl | rfl
      · simp only [Ne.symm hxy, if_false]
        exact ⟨⟨nb, hnb, rb.ext hx34.1⟩, fun e he => ⟨hy e he, by rw [shr_cutN, ← hsh e0 he0 e he]; exact shr_up (hapre e0 he0) (by omega)⟩⟩
      · simp only [if_true]
        exact ⟨⟨na, hna, ra.ext hx34.1⟩, fun e he => ⟨hx e he, by rw [shr_cutN]; exact shr_up (hapre e he) (by omega)⟩⟩
    rintro _ w5 ⟨hx5, b', rfl, rn⟩
    refine ⟨hx34.trans hx5, b', _, rfl, rn, fun e => ?_⟩
    rw [List.mem_flatMap]
    constructor
    · rintro ⟨c, hc, he⟩
      rcases (hmem c).1 hc with rfl | rfl
      · simp only [Ne.symm hxy, if_false] at he; exact .inr he
      · simp only [if_true] at he; exact .inl he
    · rintro (he | he)
      · exact ⟨(x, a), (hmem _).2 (.inr rfl), by simp only [if_true]; exact he⟩
      · exact ⟨(y, b), (hmem _).2 (.inl rfl), by simp only [Ne.symm hxy, if_false]; exact he⟩

end Go.Proofs.Ytlpndcfkjkbeoaa

namespace Go.Proofs.Ytlpndcfkjkbeoaa
open Go Go.Pan

/-! ### trees -/

abbrev T_tree := T_tree_Tree

/-- a tree of k, with entries -/
structure TreeRep (h : Array Obj) (b k : Nat) (l : List Ent) : Prop where
  ex : ∃ o n, h[b]? = some (.cells #[I k, ptrO o] T_tree (0, 0)) ∧ NodeO h k o n l
  k1 : 1 ≤ k
  k16 : k ≤ 16
theorem TreeRep.ext {h h' : Array Obj} (x : HExt h h') {b k : Nat} {l : List Ent} (r : TreeRep h b k l) : TreeRep h' b k l := by
  obtain ⟨⟨o, n, hb, ho⟩, h1, h2⟩ := r
  exact ⟨⟨o, n, x.blk hb, ho.ext x⟩, h1, h2⟩
theorem NodeO.srt {h : Array Obj} {k n : Nat} {o : Option Nat} {l : List Ent} (r : NodeO h k o n l) : Srt l := by
  cases o with
  | none => rw [show l = [] from r]; exact List.Pairwise.nil
  | some b => exact NodeRep.srt r
theorem NodeO.ok {h : Array Obj} {k n : Nat} {o : Option Nat} {l : List Ent} (r : NodeO h k o n l) : ∀ e ∈ l, e.1.length = k ∧ small 64 e.1 ∧ e.2 < 2 ^ 64 := by
  cases o with
  | none => rw [show l = [] from r]; intro e he; cases he
  | some b => exact NodeRep.ok r
theorem TreeRep.srt {h : Array Obj} {b k : Nat} {l : List Ent} (r : TreeRep h b k l) : Srt l := by
  obtain ⟨⟨o, n, hb, ho⟩, h1, h2⟩ := r; exact ho.srt
theorem TreeRep.ok {h : Array Obj} {b k : Nat} {l : List Ent} (r : TreeRep h b k l) : ∀ e ∈ l, e.1.length = k ∧ small 64 e.1 ∧ e.2 < 2 ^ 64 := by
  obtain ⟨⟨o, n, hb, ho⟩, h1, h2⟩ := r; exact ho.ok

/-- the entries that agree with a point from a level on -/
def ag (n : Nat) (q : List Nat) (l : List Ent) : List Ent := l.filter fun e => decide (shr n e.1 = shr n q)
theorem mem_ag {n : Nat} {q : List Nat} {l : List Ent} {e : Ent} : e ∈ ag n q l ↔ e ∈ l ∧ shr n e.1 = shr n q := by simp [ag]

theorem shr64 {p : List Nat} (h : small 64 p) : shr 64 p = List.replicate p.length 0 := by
  apply List.ext_getElem
  · simp [shr]
  · intro i h1 h2
    simp only [shr, List.getElem_map, List.getElem_replicate]
    exact Nat.div_eq_of_lt (h _ (List.getElem_mem _))
theorem ag_top {q : List Nat} {l : List Ent} (hq : small 64 q) (h : ∀ e ∈ l, e.1.length = q.length ∧ small 64 e.1) : ag 64 q l = l := by
  refine List.filter_eq_self.2 fun e he => ?_
  rw [decide_eq_true_eq, shr64 (h e he).2, shr64 hq, (h e he).1]
theorem ag_down {n : Nat} {q : List Nat} {l : List Ent} (h : ∀ e ∈ l, e.1.length = q.length) : atA n (dig n q) (ag (n + 1) q l) = ag n q l := by
  unfold atA ag
  rw [List.filter_filter]
  refine List.filter_congr fun e he => ?_
  rw [← Bool.decide_and]
  congr 1
  apply propext
  exact ⟨fun ⟨h1, h2⟩ => shr_down (h e he) h2 h1, fun h => ⟨dig_up h (Nat.le_refl n), shr_up h (by omega)⟩⟩

/-- the nodes that cover a point, the last one first; the level from which it goes on -/
inductive Way (h : Array Obj) (k : Nat) (q : List Nat) (l : List Ent) : List (Nat × Nat) → Nat → Prop where
  | start : ag 64 q l = l → Way h k q l [] 64
  | step {ps : List (Nat × Nat)} {m b n : Nat} : Way h k q l ps m → NodeRep h k b (n + 1) (ag (n + 1) q l) → n + 1 ≤ m → ag m q l = ag (n + 1) q l → Way h k q l ((b, n + 1) :: ps) n
theorem Way.ext {h h' : Array Obj} (x : HExt h h') {k : Nat} {q : List Nat} {l : List Ent} {ps : List (Nat × Nat)} {m : Nat} (r : Way h k q l ps m) : Way h' k q l ps m := by
  induction r with
  | start h => exact .start h
  | step _ h1 h2 h3 ih => exact .step ih (h1.ext x) h2 h3
theorem Way.lvl {h : Array Obj} {k : Nat} {q : List Nat} {l : List Ent} {ps : List (Nat × Nat)} {m : Nat} (r : Way h k q l ps m) : m + ps.length ≤ 64 := by
  induction r with
  | start h => simp
  | step _ h1 h2 h3 ih => simp only [List.length_cons]; omega

theorem down_spec {k b n : Nat} {l : List Ent} {w : World} {u : Value} {q : List Nat} {h0 : Array Obj} (r : NodeRep h0 k b (n + 1) (ag (n + 1) q l)) (x0 : HExt h0 w.heap) (t : Sl w.heap u q) (hq : q.length = k) (hl : ∀ e ∈ l, e.1.length = k) :
    CallK Try.prog F_tree_down [ptr b, u] (fun r w' => Ext w w' ∧ ∃ o n', r = ptrO o ∧ n' ≤ n ∧ NodeO h0 k o n' (ag n q l)) w := by
  have hk1 := r.k1
  have hn : n < 64 := by obtain ⟨_, _, _, _, _, _, _, _, _, h, _⟩ := r.kids; exact h
  obtain ⟨ua, ucap, rfl⟩ := t.form
  refine e_tree_down rfl ?_
  refine cl (node_level_spec (r.ext x0)) ?_
  rintro _ _ ⟨rfl, rfl⟩
  rw [show ((n + 1 : Nat) : Int) - 1 = n from by omega]
  refine cl (addr_spec t (by omega) hn) ?_
  rintro _ _ ⟨rfl, rfl⟩
  refine cl (kid_spec r x0 (dig n q)) ?_
  rintro _ w1 ⟨hx, o, n', rfl, hn', ho⟩
  rw [ag_down (fun e he => (hl e he).trans hq.symm)] at ho
  exact ⟨hx, o, n', rfl, hn', ho⟩

/-- what a path is -/
structure PathOf (h0 : Array Obj) (w : World) (k : Nat) (q : List Nat) (l : List Ent) (v below : Value) : Prop where
  ex : ∃ ps m, Way h0 k q l ps m ∧
    ((∃ b, NodeRep h0 k b 0 (ag 0 q l) ∧ ag m q l = ag 0 q l ∧ Rw w.heap v (ps.length + 1) (ps.reverse.map (fun c => ptr c.1) ++ [ptr b]) ∧ below = nilp ∧ ∃ g cap, v = .slice (some ⟨g, 0, none⟩) (ps.length + 1) cap ∧ ps.length + 1 ≤ cap) ∨
     (∃ o n', NodeO h0 k o n' (ag m q l) ∧ (o ≠ none → n' ≤ m) ∧ (o ≠ none → ag n' q l = []) ∧ ag 0 q l = [] ∧ Rw w.heap v ps.length (ps.reverse.map (fun c => ptr c.1)) ∧ below = ptrO o))

set_option maxHeartbeats 1000000 in
theorem path_spec {k b : Nat} {l : List Ent} {w : World} {u : Value} {q : List Nat} (tr : TreeRep w.heap b k l) (t : Sl w.heap u q) (hq : q.length = k) :
    CallK Try.prog F_tree_Tree_path [ptr b, u] (fun r w' => Ext w w' ∧ ∃ v below, r = .tuple #[v, below] ∧ PathOf w.heap w' k q l v below) w := by
  have hl : ∀ e ∈ l, e.1.length = k := fun e he => (tr.ok e he).1
  have htop : ag 64 q l = l := ag_top t.small fun e he => ⟨by rw [hl e he, hq], (tr.ok e he).2.1⟩
  obtain ⟨⟨o, n, hb, ho⟩, h1, h16⟩ := tr
  refine e_tree_Tree_path rfl ?_
  have hn0 : o ≠ none → n ≤ 64 := by
    intro h
    cases o with
    | none => exact absurd rfl h
    | some r => obtain ⟨_, _, _, _, _, _, _, _, _, _, _, hn⟩ := NodeRep.head (show NodeRep w.heap k r n l from ho) |>.ex; exact hn
  refine jl2 (sc := sc0) tt_ok hmix 0 rfl (by kernel_rfl) (by kernel_rfl) (by kernel_rfl) (by kernel_rfl) (fun _ _ _ h => h)
    (fun s : List (Nat × Nat) × Nat × Option Nat × Nat × Value => [(0, ptr b), (1, u), (6, s.2.2.2.2), (7, ptrO s.2.2.1)])
    (fun s w' => Ext w w' ∧ Way w.heap k q l s.1 s.2.1 ∧ NodeO w.heap k s.2.2.1 s.2.2.2.1 (ag s.2.1 q l) ∧ (s.2.2.1 ≠ none → s.2.2.2.1 ≤ s.2.1) ∧ w'.ownsRow w.heap.size T_p_node_Node 1 s.2.2.2.2 s.1.length (s.1.reverse.map (fun c => ptr c.1))) (fun s => s.2.1) ?_ ?_
  · refine ⟨by decide, ldB hb rfl ?_⟩
    exact ⟨([], 64, o, n, .slice none 0 0), ⟨rfl, rfl, rfl, rfl, trivial⟩, Ext.refl w, .start htop, by simp only; rw [htop]; exact ho, hn0, own_none _ _ _ _⟩
  · rintro ⟨ps, m, o, n, v⟩ e w1 ⟨hx, hway, ho, hnm, hown⟩
    simp only at hway ho hnm hown
    have hlv := hway.lvl
    cases o with
    | none =>
      refine cl (nil_covers_spec u _) ?_
      rintro _ _ ⟨rfl, rfl⟩
      have hnil : ag m q l = [] := ho
      have h0 : ag 0 q l = [] := List.eq_nil_iff_forall_not_mem.2 fun e he => by
        have := mem_ag.1 he
        have h2 : e ∈ ag m q l := mem_ag.2 ⟨this.1, shr_up this.2 (Nat.zero_le _)⟩
        rw [hnil] at h2; cases h2
      exact ⟨hx, v, nilp, rfl, ⟨ps, m, hway, .inr ⟨none, 0, hnil, fun h => absurd rfl h, fun h => absurd rfl h, h0, own_rw hown, rfl⟩⟩⟩
    | some r =>
      have hr : NodeRep w.heap k r n (ag m q l) := ho
      have hnm' := hnm (by simp)
      refine cl (node_covers_spec (hr.ext hx.1) (t.ext hx.1)) ?_
      rintro _ _ ⟨rfl, rfl⟩
      by_cases hc : q.length = k ∧ ∀ e ∈ ag m q l, shr n e.1 = shr n q
      · rw [decide_eq_true hc]
        have hag : ag m q l = ag n q l := by
          unfold ag
          refine List.filter_congr fun e he => ?_
          congr 1
          apply propext
          exact ⟨fun h => hc.2 e (mem_ag.2 ⟨he, h⟩), fun h => shr_up h hnm'⟩
        refine ⟨rfl, rfl, by decide, al ?_⟩
        intro nb w2 hnb hx2 hsz2 hblk2
        refine app tt_ok rfl rfl rfl rfl (by decide) rfl rfl (own_keep hown hx2) rfl (news := [ptr r]) rfl (celsAt_blk (o := 0) hblk2 rfl) rfl (by omega) (by decide) (by have := (hx.trans hx2).1.1; omega) ?_
        intro v' w3 ho3 hg3 hn3
        have hx3 : Ext w w3 := (hx.trans hx2).grown hg3 (own_row hown)
        refine cl (node_level_spec (hr.ext hx3.1)) ?_
        rintro _ _ ⟨rfl, rfl⟩
        refine ts (fun g => ?_) (fun g => ?_)
        · have hn0 : n = 0 := by omega
          subst hn0
          obtain ⟨g, cap, rest, hv', -, hcap, -⟩ := own_cur ho3 (by omega)
          refine ⟨hx3, v', nilp, rfl, ⟨ps, m, hway, .inl ⟨r, by rw [← hag]; exact hr, hag, own_rw ho3, rfl, g, cap, hv', hcap⟩⟩⟩
        · obtain ⟨n, rfl⟩ : ∃ i, n = i + 1 := ⟨n - 1, by omega⟩
          rw [hag] at hr
          refine cl (down_spec hr hx3.1 (t.ext hx3.1) hq hl) ?_
          rintro _ w4 ⟨hx4, o', n', rfl, hn', ho'⟩
          refine ⟨rfl, ((r, n + 1) :: ps, n, o', n', v'), ⟨⟨rfl, rfl, rfl, rfl, trivial⟩, hx3.trans hx4, .step hway hr hnm' hag, ho', fun _ => hn', ?_⟩, ?_⟩
          · simp only [List.length_cons, List.reverse_cons, List.map_append, List.map_cons, List.map_nil]
            exact own_keep ho3 hx4
          · simp only; omega
      · rw [decide_eq_false hc]
        have hn0 : ag n q l = [] := List.eq_nil_iff_forall_not_mem.2 fun e he => hc ⟨hq, fun f hf => by
          have h1 := mem_ag.1 he
          obtain ⟨_, pre, _, _, _, _, _, hpre, _⟩ := hr.head.ex
          have h2 : e ∈ ag m q l := mem_ag.2 ⟨h1.1, shr_up h1.2 hnm'⟩
          exact ((hpre f hf).trans (hpre e h2).symm).trans h1.2⟩
        have h0 : ag 0 q l = [] := List.eq_nil_iff_forall_not_mem.2 fun e he => by
          have := mem_ag.1 he
          have h2 : e ∈ ag n q l := mem_ag.2 ⟨this.1, shr_up this.2 (Nat.zero_le _)⟩
          rw [hn0] at h2; cases h2
        exact ⟨hx, v, ptr r, rfl, ⟨ps, m, hway, .inr ⟨some r, n, hr, fun _ => hnm', fun _ => hn0, h0, own_rw hown, rfl⟩⟩⟩

end Go.Proofs.Ytlpndcfkjkbeoaa

namespace Go.Proofs.Ytlpndcfkjkbeoaa
open Go Go.Pan

/-! ### trees: found, up, Put, Del -/

theorem found_nil_spec (cap : Nat) (a : Option Addr) (w : World) : CallK Try.prog F_tree_found [.slice a 0 cap] (fun r w' => Ext w w' ∧ r = .tuple #[nilE, .bool false]) w := by
  refine e_tree_found rfl ?_
  refine al ?_
  intro nb w1 hnb hx1 hsz1 hblk1
  have hblk1' : w1.heap[nb]? = some (.cells #[.slice none 0 0, U 0] T_api_Entry (0, 0)) := hblk1
  refine tsT rfl ?_
  refine st hblk1' rfl rfl rfl ?_
  intro w2 u2
  have h2 : w2.heap[nb]? = some (.cells #[.slice none 0 0, U 0] T_api_Entry (0, 0)) := u2.new
  refine ldC (cs := [.slice none 0 0, U 0]) (celsAt_blk (o := 0) h2 rfl) rfl ?_
  exact ⟨hx1.upd (show w.heap.size ≤ nb by omega) u2, rfl⟩

theorem found_spec {k b n j : Nat} {l : List Ent} {w : World} {v : Value} {cs : List Value} (r : NodeRep w.heap k b n l) (hr : Rw w.heap v (j + 1) cs) (hc : cs[j]? = some (ptr b)) (hj : j ≤ 65536) :
    CallK Try.prog F_tree_found [v] (fun r w' => Ext w w' ∧ ((0 < n ∧ r = .tuple #[nilE, .bool false]) ∨ (n = 0 ∧ ∃ p x pv, l = [(p, x)] ∧ r = .tuple #[.agg #[pv, U x], .bool true] ∧ Sl w'.heap pv p))) w := by
  obtain ⟨a, cap, rfl⟩ := hr.form
  obtain ⟨cb, co, rfl, hcs⟩ := hr.place (by omega)
  refine e_tree_found rfl ?_
  refine al ?_
  intro nb w1 hnb hx1 hsz1 hblk1
  have hblk1' : w1.heap[nb]? = some (.cells #[.slice none 0 0, U 0] T_api_Entry (0, 0)) := hblk1
  refine tsF (by omega) ?_
  refine nm (v := ((j : Nat) : Int)) (wr64 (by omega) (by omega) (by omega)) ?_
  refine ix rfl (show j < j + 1 by omega) ?_
  refine ld (v := ptr b) ((hx1.1.cels hcs).get (j := j * 1) (by rw [Nat.mul_one]; exact hc)) ?_
  refine cl (node_entry_spec (r.ext hx1.1)) ?_
  rintro _ w2 ⟨hx2, hent⟩
  have hb2 := hx2.blk hblk1'
  have hwnb : w.heap.size ≤ nb := by omega
  rcases hent with ⟨hn, rfl⟩ | ⟨hn, p, x, pv, hl, rfl, hfr⟩
  · refine st hb2 rfl rfl rfl ?_
    intro w3 u3
    have h3 : w3.heap[nb]? = some (.cells #[.slice none 0 0, U 0] T_api_Entry (0, 0)) := u3.new
    refine ldC (cs := [.slice none 0 0, U 0]) (celsAt_blk (o := 0) h3 rfl) rfl ?_
    exact ⟨(hx1.trans hx2).upd hwnb u3, .inl ⟨hn, rfl⟩⟩
  · obtain ⟨cb2, cap2, rest2, rfl, hcb2, hcblk2⟩ := hfr.own
    refine st hb2 rfl rfl rfl ?_
    intro w3 u3
    have h3 : w3.heap[nb]? = some (.cells #[.slice (some ⟨cb2, 0, none⟩) p.length cap2, U x] T_api_Entry (0, 0)) := u3.new
    refine ldC (cs := [.slice (some ⟨cb2, 0, none⟩) p.length cap2, U x]) (celsAt_blk (o := 0) h3 rfl) rfl ?_
    refine ⟨(hx1.trans hx2).upd hwnb u3, .inr ⟨hn, p, x, _, hl, rfl, ?_⟩⟩
    have : cb2 ≠ nb := by have := lt_of_blk hblk1'; omega
    exact Sl.ofBlk (u3.old this hcblk2) hfr.sl.small

/-- entries with a point put, or gone -/
def PutL (X : List Ent) (q : List Nat) (l l' : List Ent) : Prop := ∀ e, e ∈ l' ↔ e ∈ X ∨ e ∈ l ∧ e.1 ≠ q

set_option maxHeartbeats 1000000 in
theorem up_spec {k b c nc m : Nat} {l lc X : List Ent} {q : List Nat} {ps : List (Nat × Nat)} {w : World} {v : Value} (tr : TreeRep w.heap b k l) (hq : q.length = k) (hway : Way w.heap k q l ps m) (hr : Rw w.heap v ps.length (ps.reverse.map fun c => ptr c.1))
    (rc : NodeRep w.heap k c nc lc) (hnc : nc ≤ m) (hsh : ∀ e ∈ lc, shr m e.1 = shr m q) (hX : ∀ e ∈ X, e.1 = q) (hmem : ∀ e, e ∈ lc ↔ e ∈ X ∨ e ∈ ag m q l ∧ e.1 ≠ q) :
    CallK Try.prog F_tree_Tree_up [ptr b, v, ptr c] (fun r w' => Ext w w' ∧ ∃ b' l', r = ptr b' ∧ w.heap.size ≤ b' ∧ TreeRep w'.heap b' k l' ∧ PutL X q l l') w := by
  obtain ⟨⟨o0, n0, hb, -⟩, h1, h16⟩ := tr
  have hlv := hway.lvl
  obtain ⟨a, cap, rfl⟩ := hr.form
  refine e_tree_Tree_up rfl ?_
  refine nm (v := ((ps.length : Nat) : Int) - 1) (wr64 rfl (by omega) (by omega)) ?_
  refine lp (fun s : List (Nat × Nat) × Nat × Nat × Nat × List Ent => [(0, ptr b), (1, .slice a ps.length cap), (2, ptr s.2.2.1), (7, I ((s.1.length : Nat) - 1))])
    (fun s w' => Ext w w' ∧ (∃ done, ps = done ++ s.1) ∧ Way w.heap k q l s.1 s.2.1 ∧ NodeRep w'.heap k s.2.2.1 s.2.2.2.1 s.2.2.2.2 ∧ s.2.2.2.1 ≤ s.2.1 ∧ (∀ e ∈ s.2.2.2.2, shr s.2.1 e.1 = shr s.2.1 q) ∧ ∀ e, e ∈ s.2.2.2.2 ↔ e ∈ X ∨ e ∈ ag s.2.1 q l ∧ e.1 ≠ q)
    (fun s => s.1.length) (ps, m, c, nc, lc) ⟨rfl, rfl, rfl, rfl, trivial⟩ ⟨Ext.refl w, ⟨[], rfl⟩, hway, rc, hnc, hsh, hmem⟩ ?_
  rintro ⟨R, m, c, nc, lc⟩ e0 w1 ⟨hx, ⟨done, hdone⟩, hway, rc, hnc, hsh, hmem⟩
  simp only at hdone hway rc hnc hsh hmem
  cases hway with
  | start htop =>
    refine tsF (by simp) ?_
    refine ⟨by decide, ldB (hx.blk hb) rfl ?_⟩
    refine al ?_
    intro nb w2 hnb hx2 hsz2 hblk2
    refine ⟨hx.trans hx2, nb, lc, rfl, by have := hx.1.1; omega, ⟨⟨some c, nc, hblk2, rc.ext hx2.1⟩, h1, h16⟩, fun e => ?_⟩
    rw [hmem e, htop]
  | @step R' m' b1 _ hway' hn1 hle hag =>
    have hlv' := hway'.lvl
    refine tsT (by simp only [List.length_cons]; omega) ?_
    have hi : R'.length < ps.length := by rw [hdone, List.length_append, List.length_cons]; omega
    obtain ⟨cb, co, rfl, hcs⟩ := hr.place (by omega)
    refine ix (j := R'.length) (by simp only [List.length_cons]; omega) hi ?_
    refine ld (v := ptr b1) ((hx.1.cels hcs).get (j := R'.length * 1) ?_) ?_
    · rw [Nat.mul_one, hdone, List.reverse_append, List.reverse_cons, List.map_append, List.map_append, List.getElem?_append_left (by simp), List.getElem?_append_right (by simp)]
      simp
    have hsn : ∀ e ∈ lc, ∀ f ∈ ag (m + 1) q l, shr (m + 1) e.1 = shr (m + 1) f.1 := fun e he f hf => (shr_up (hsh e he) (by omega)).trans (mem_ag.1 hf).2.symm
    refine cl (with_spec (hn1.ext hx.1) rc hnc (a := dig m q) (fun e he => dig_up (hsh e he) (Nat.le_refl _)) hsn) ?_
    rintro _ w2 ⟨hx2, c', l', rfl, rc', hp⟩
    refine nm (v := ((R'.length : Nat) : Int) - 1) (wr64 (by simp only [List.length_cons]; omega) (by omega) (by omega)) ?_
    refine ⟨(R', m', c', m + 1, l'), ⟨⟨rfl, rfl, rfl, rfl, trivial⟩, hx.trans hx2, ⟨done ++ [(b1, m + 1)], by rw [hdone]; simp⟩, hway', rc', hle, fun e he => ?_, fun e => ?_⟩, by simp only [List.length_cons]; omega⟩
    · show shr m' e.1 = shr m' q
      rcases (hp.mem e).1 he with h | ⟨h, -⟩
      · exact shr_up (hsh e h) (by omega)
      · exact shr_up (mem_ag.1 h).2 (by omega)
    · simp only
      rw [hp.mem e, hmem e, hag]
      constructor
      · rintro ((h | ⟨h, hne⟩) | ⟨h, hne⟩)
        · exact .inl h
        · exact .inr ⟨mem_ag.2 ⟨(mem_ag.1 h).1, shr_up (mem_ag.1 h).2 (by omega)⟩, hne⟩
        · exact .inr ⟨h, fun e2 => hne (by rw [e2])⟩
      · rintro (h | ⟨h, hne⟩)
        · exact .inl (.inl h)
        · by_cases hd : dig m e.1 = dig m q
          · refine .inl (.inr ⟨mem_ag.2 ⟨(mem_ag.1 h).1, ?_⟩, hne⟩)
            have hok := (hn1.ok e h).1
            exact shr_down (by rw [hok, hq]) (mem_ag.1 h).2 hd
          · exact .inr ⟨h, hd⟩

end Go.Proofs.Ytlpndcfkjkbeoaa

namespace Go.Proofs.Ytlpndcfkjkbeoaa
open Go Go.Pan

theorem tree_check_spec {k b : Nat} {l : List Ent} {w : World} (tr : TreeRep w.heap b k l) {u : Value} {q : List Nat} (t : Sl w.heap u q) :
    CallK Try.prog F_tree_Tree_check [ptr b, u] (fun r w' => w = w' ∧ r = if q.length = k then I 0 else I 2) w := by
  obtain ⟨⟨o, n, hb, -⟩, -⟩ := tr
  obtain ⟨a, cap, rfl⟩ := t.form
  refine e_tree_Tree_check rfl ?_
  refine ⟨by decide, ldB hb rfl ?_⟩
  refine ts (fun g => ?_) (fun g => ?_)
  · refine ⟨rfl, ?_⟩
    rw [if_pos (by omega)]
    rfl
  · refine ⟨rfl, ?_⟩
    rw [if_neg (by omega)]
    rfl

theorem Way.leafless {h : Array Obj} {k : Nat} {q : List Nat} {l : List Ent} {ps : List (Nat × Nat)} {m : Nat} (r : Way h k q l ps m) : ps = [] ∨ ∃ b n ps', ps = (b, n + 1) :: ps' ∧ NodeRep h k b (n + 1) (ag (n + 1) q l) := by
  cases r with
  | start => exact .inl rfl
  | step _ hn => exact .inr ⟨_, _, _, rfl, hn⟩

theorem ag_zero {q : List Nat} {l : List Ent} {e : Ent} : e ∈ ag 0 q l ↔ e ∈ l ∧ e.1 = q := by
  rw [mem_ag, shr_zero, shr_zero]

theorem nil_of_ag {q : List Nat} {l : List Ent} (h : ag 0 q l = []) : ∀ e ∈ l, e.1 ≠ q := fun e he hq => by
  have := ag_zero.2 ⟨he, hq⟩
  rw [h] at this; cases this

set_option maxHeartbeats 2000000 in
theorem tree_put_spec {k b : Nat} {l : List Ent} {w : World} {u : Value} {q : List Nat} (tr : TreeRep w.heap b k l) (t : Sl w.heap u q) (hq : q.length = k) {x : Nat} (hx : x < 2 ^ 64) :
    CallK Try.prog F_tree_Tree_Put [ptr b, u, U x] (fun r w' => Ext w w' ∧ ((r = .tuple #[ptr b, I 0] ∧ (q, x) ∈ l) ∨
      ∃ b' l', r = .tuple #[ptr b', I 0] ∧ w.heap.size ≤ b' ∧ (q, x) ∉ l ∧ TreeRep w'.heap b' k l' ∧ PutL [(q, x)] q l l')) w := by
  have hk1 := tr.k1
  have hk16 := tr.k16
  refine e_tree_Tree_Put rfl ?_
  refine cl (tree_check_spec tr t) ?_
  rintro _ _ ⟨rfl, rfl⟩
  rw [if_pos hq]
  refine tsT rfl ?_
  refine cl (path_spec tr t hq) ?_
  rintro _ w1 ⟨hx1, v, below, rfl, ⟨ps, m, hway, hcase⟩⟩
  have hlv := hway.lvl
  rcases hcase with ⟨lb, hleaf, hag, hr, rfl, g, cap, rfl, hcap⟩ | ⟨o, n', ho, hn'm, hnn', h0, hr, rfl⟩
  · -- it is there
    refine cl (found_spec (hleaf.ext hx1.1) hr (by simp) (by omega)) ?_
    rintro _ w2 ⟨hx2, ⟨h, -⟩ | ⟨-, p, y, pv, hl, rfl, hs⟩⟩
    · omega
    have hpq : p = q ∧ (q, y) ∈ l := by
      have : (p, y) ∈ ag 0 q l := by rw [hl]; simp
      have := ag_zero.1 this
      exact ⟨this.2, by rw [← this.2]; exact this.1⟩
    obtain ⟨rfl, hy⟩ := hpq
    obtain ⟨pa, pcap, rfl⟩ := hs.form
    refine al ?_
    intro nb w3 hnb hx3 hsz3 hblk3
    refine st hblk3 rfl rfl rfl ?_
    intro w4 u4
    have hx24 : Ext w2 w4 := hx3.upd (show w2.heap.size ≤ nb by omega) u4
    have hx4 : Ext w w4 := (hx1.trans hx2).trans hx24
    have hb4 : w4.heap[nb]? = some (.cells #[.slice pa p.length pcap, U y] T_api_Entry (0, 0)) := u4.new
    refine ⟨by decide, ldB hb4 rfl ?_⟩
    refine ts (fun g1 => ?_) (fun g1 => ?_)
    · have : y = x := by omega
      subst this
      exact ⟨hx4, .inl ⟨rfl, hy⟩⟩
    · refine cl (leaf_spec (t.ext hx4.1) (by omega) (by omega) hx) ?_
      rintro _ w5 ⟨hx5, c, rfl, rc⟩
      refine nm (v := ((ps.length : Nat) : Int)) (wr64 (by omega) (by omega) (by omega)) ?_
      refine ⟨by omega, by omega, _, up_slice', ?_⟩
      have hx05 := hx4.trans hx5
      have hr2 : Rw w5.heap (.slice (some ⟨g, 0, none⟩) ps.length cap) ps.length (ps.reverse.map fun c => ptr c.1) := by
        rcases ((hr.ext (hx2.trans (hx24.trans hx5)).1).take (m := ps.length)) with h | h
        · exact h
        · omega
      have huniq : (p, x) ∉ l := fun h => by
        have h1 : (p, x) ∈ ag 0 p l := ag_zero.2 ⟨h, rfl⟩
        rw [hl] at h1
        have := congrArg Prod.snd (List.mem_singleton.1 h1)
        simp only at this
        omega
      rw [hq] at rc
      refine cl (up_spec (X := [(p, x)]) (tr.ext hx05.1) hq (hway.ext hx05.1) hr2 rc (Nat.zero_le _) (fun e he => by rw [List.mem_singleton.1 he]) (fun e he => by rw [List.mem_singleton.1 he]) (fun e => ?_)) ?_
      · constructor
        · exact fun h => .inl h
        · rintro (h | ⟨h, hne⟩)
          · exact h
          · rw [hag] at h
            exact absurd (ag_zero.1 h).2 hne
      rintro _ w6 ⟨hx6, b', l', rfl, hb', tr', hput⟩
      exact ⟨hx05.trans hx6, .inr ⟨b', l', rfl, by have := hx05.1.1; omega, huniq, tr', hput⟩⟩
  · -- it is not
    have hnot : (q, x) ∉ l := fun h => nil_of_ag h0 _ h rfl
    have fnd : CallK Try.prog F_tree_found [v] (fun r w' => Ext w1 w' ∧ r = .tuple #[nilE, .bool false]) w1 := by
      rcases hway.leafless with rfl | ⟨b1, n1, ps', rfl, hn1⟩
      · obtain ⟨a, cap, rfl⟩ := hr.form
        exact found_nil_spec cap a w1
      · refine (found_spec (j := ps'.length) (hn1.ext hx1.1) (by simpa using hr) ?_ (by simp only [List.length_cons] at hlv; omega)).mono ?_
        · rw [List.getElem?_append_right (by simp)]
          simp
        · rintro r w' ⟨h1, ⟨-, h2⟩ | ⟨h2, -⟩⟩
          · exact ⟨h1, h2⟩
          · omega
    refine cl fnd ?_
    rintro _ w2 ⟨hx2, rfl⟩
    refine al ?_
    intro nb w3 hnb hx3 hsz3 hblk3
    refine st hblk3 rfl rfl rfl ?_
    intro w4 u4
    have hx24 : Ext w2 w4 := hx3.upd (show w2.heap.size ≤ nb by omega) u4
    have hx4 : Ext w w4 := (hx1.trans hx2).trans hx24
    refine cl (leaf_spec (t.ext hx4.1) (by omega) (by omega) hx) ?_
    rintro _ w5 ⟨hx5, c, rfl, rc⟩
    rw [hq] at rc
    have hx05 := hx4.trans hx5
    have hx15 := hx2.trans (hx24.trans hx5)
    cases o with
    | none =>
      have hnil : ag m q l = [] := ho
      refine cl (up_spec (X := [(q, x)]) (tr.ext hx05.1) hq (hway.ext hx05.1) (hr.ext hx15.1) rc (Nat.zero_le _) (fun e he => by rw [List.mem_singleton.1 he]) (fun e he => by rw [List.mem_singleton.1 he]) (fun e => by rw [hnil]; simp)) ?_
      rintro _ w6 ⟨hx6, b', l', rfl, hb', tr', hput⟩
      exact ⟨hx05.trans hx6, .inr ⟨b', l', rfl, by have := hx05.1.1; omega, hnot, tr', hput⟩⟩
    | some r =>
      have hrr : NodeRep w.heap k r n' (ag m q l) := ho
      have hn'm := hn'm (by simp)
      have hnn' := hnn' (by simp)
      obtain ⟨_, pre, _, _, _, _, hpk, hpre, _, _, _, _⟩ := hrr.head.ex
      obtain ⟨e0, he0⟩ := List.exists_mem_of_ne_nil _ hrr.ne
      have hlen : pre.length = q.length := by omega
      have htm : top pre q ≤ m := (top_le hlen).2 ((shr_up (hpre e0 he0) hn'm).symm.trans (mem_ag.1 he0).2)
      have htn : ¬ top pre q ≤ n' := fun h => by
        have h1 := (top_le hlen).1 h
        have : e0 ∈ ag n' q l := mem_ag.2 ⟨(mem_ag.1 he0).1, (hpre e0 he0).trans h1⟩
        rw [hnn'] at this; cases this
      obtain ⟨L, hL⟩ : ∃ L, top pre q = L + 1 := ⟨top pre q - 1, by omega⟩
      have hs1 : shr (L + 1) pre = shr (L + 1) q := (top_le hlen).1 (by omega)
      have hs2 : dig L pre ≠ dig L q := fun h => by
        have := (top_le hlen).2 (shr_down hlen hs1 h)
        omega
      refine cl (pair_spec (L := L) (x := dig L pre) (y := dig L q) (hrr.ext hx05.1) rc (by omega) (by omega) (by omega) (fun e he => dig_up (hpre e he) (by omega)) (fun e he => by rw [List.mem_singleton.1 he]) hs2 (fun e he f hf => by rw [List.mem_singleton.1 hf]; exact (shr_up (hpre e he) (by omega)).trans hs1)) ?_
      rintro _ w6 ⟨hx6, c', lc, rfl, rc', hmem⟩
      have hx06 := hx05.trans hx6
      refine cl (up_spec (X := [(q, x)]) (tr.ext hx06.1) hq (hway.ext hx06.1) (hr.ext (hx15.trans hx6).1) rc' (by omega) (fun e he => ?_) (fun e he => by rw [List.mem_singleton.1 he]) (fun e => ?_)) ?_
      · rcases (hmem e).1 he with h | h
        · exact (mem_ag.1 h).2
        · rw [List.mem_singleton.1 h]
      · rw [hmem e]
        constructor
        · rintro (h | h)
          · exact .inr ⟨h, nil_of_ag h0 e (mem_ag.1 h).1⟩
          · exact .inl h
        · rintro (h | ⟨h, -⟩)
          · exact .inr h
          · exact .inl h
      rintro _ w7 ⟨hx7, b', l', rfl, hb', tr', hput⟩
      exact ⟨hx06.trans hx7, .inr ⟨b', l', rfl, by have := hx06.1.1; omega, hnot, tr', hput⟩⟩

end Go.Proofs.Ytlpndcfkjkbeoaa

namespace Go.Proofs.Ytlpndcfkjkbeoaa
open Go Go.Pan

theorem Way.top {h : Array Obj} {k : Nat} {q : List Nat} {l : List Ent} {m : Nat} (r : Way h k q l [] m) : ag m q l = l := by
  cases r with
  | start h => exact h

theorem Way.up {h : Array Obj} {k : Nat} {q : List Nat} {l : List Ent} {b n m : Nat} {ps : List (Nat × Nat)} (r : Way h k q l ((b, n) :: ps) m) : ∃ m', n = m + 1 ∧ Way h k q l ps m' ∧ NodeRep h k b (m + 1) (ag (m + 1) q l) ∧ m + 1 ≤ m' ∧ ag m' q l = ag (m + 1) q l := by
  cases r with
  | step h1 h2 h3 h4 => exact ⟨_, rfl, h1, h2, h3, h4⟩

set_option maxHeartbeats 2000000 in
theorem tree_del_spec {k b : Nat} {l : List Ent} {w : World} {u : Value} {q : List Nat} (tr : TreeRep w.heap b k l) (t : Sl w.heap u q) (hq : q.length = k) :
    CallK Try.prog F_tree_Tree_Del [ptr b, u] (fun r w' => Ext w w' ∧ ((r = .tuple #[nilp, I 6] ∧ ∀ e ∈ l, e.1 ≠ q) ∨
      ∃ b' l', r = .tuple #[ptr b', I 0] ∧ w.heap.size ≤ b' ∧ (∃ x, (q, x) ∈ l) ∧ TreeRep w'.heap b' k l' ∧ PutL [] q l l')) w := by
  have hk1 := tr.k1
  have hk16 := tr.k16
  refine e_tree_Tree_Del rfl ?_
  refine cl (tree_check_spec tr t) ?_
  rintro _ _ ⟨rfl, rfl⟩
  rw [if_pos hq]
  refine tsT rfl ?_
  refine cl (path_spec tr t hq) ?_
  rintro _ w1 ⟨hx1, v, below, rfl, ⟨ps, m, hway, hcase⟩⟩
  have hlv := hway.lvl
  rcases hcase with ⟨lb, hleaf, hag, hr, rfl, g, cap, rfl, hcap⟩ | ⟨o, n', ho, hn'm, hnn', h0, hr, rfl⟩
  · refine cl (found_spec (hleaf.ext hx1.1) hr (by simp) (by omega)) ?_
    rintro _ w2 ⟨hx2, ⟨h, -⟩ | ⟨-, p, y, pv, hl, rfl, hs⟩⟩
    · omega
    have hpq : p = q ∧ (q, y) ∈ l := by
      have : (p, y) ∈ ag 0 q l := by rw [hl]; simp
      have := ag_zero.1 this
      exact ⟨this.2, by rw [← this.2]; exact this.1⟩
    obtain ⟨rfl, hy⟩ := hpq
    obtain ⟨pa, pcap, rfl⟩ := hs.form
    refine al ?_
    intro nb w3 hnb hx3 hsz3 hblk3
    refine st hblk3 rfl rfl rfl ?_
    intro w4 u4
    have hx24 : Ext w2 w4 := hx3.upd (show w2.heap.size ≤ nb by omega) u4
    have hx4 : Ext w w4 := (hx1.trans hx2).trans hx24
    obtain ⟨tb0, hb0⟩ : ∃ o, w.heap[b]? = some (.cells #[I k, ptrO o] T_tree (0, 0)) := by obtain ⟨⟨o, n, hb, -⟩, -⟩ := tr; exact ⟨o, hb⟩
    refine ts (fun g1 => ?_) (fun g1 => ?_)
    · have hps : ps = [] := List.eq_nil_of_length_eq_zero (by omega)
      subst hps
      refine ⟨by decide, ldB (hx4.blk hb0) rfl ?_⟩
      refine al ?_
      intro nb2 w5 hnb2 hx5 hsz5 hblk5
      refine ⟨hx4.trans hx5, .inr ⟨nb2, [], rfl, by have := hx4.1.1; omega, ⟨y, hy⟩, ⟨⟨none, 0, hblk5, rfl⟩, hk1, hk16⟩, fun e => ?_⟩⟩
      constructor
      · intro h; cases h
      · rintro (h | ⟨h, hne⟩)
        · cases h
        · rw [← hway.top, hag] at h
          exact absurd (ag_zero.1 h).2 hne
    · obtain ⟨⟨b1, n1⟩, ps', rfl⟩ : ∃ c ps', ps = c :: ps' := by
        cases ps with
        | nil => exact (g1 (by simp)).elim
        | cons c ps' => exact ⟨c, ps', rfl⟩
      obtain ⟨m', rfl, hway', hn1, hle, hag'⟩ := hway.up
      simp only [List.length_cons] at hlv hcap
      have hm64 : m < 64 := by obtain ⟨_, _, _, _, _, _, _, _, _, h, _⟩ := hn1.kids; exact h
      obtain ⟨gb, go, hgo, hcs⟩ := hr.place (by omega)
      cases hgo
      have hget : (List.map (fun c => ptr c.1) ((b1, m + 1) :: ps').reverse ++ [ptr lb])[ps'.length * 1]? = some (ptr b1) := by
        rw [Nat.mul_one, List.getElem?_append_left (by simp), List.reverse_cons, List.map_append, List.getElem?_append_right (by simp)]
        simp
      refine nm (v := ((ps'.length : Nat) : Int)) (wr64 (by simp only [List.length_cons]; omega) (by omega) (by omega)) ?_
      refine ix (j := ps'.length) rfl (by simp only [List.length_cons]; omega) ?_
      refine ld (v := ptr b1) (((hx2.trans hx24).1.cels hcs).get hget) ?_
      refine cl (node_level_spec (hn1.ext hx4.1)) ?_
      rintro _ _ ⟨rfl, rfl⟩
      rw [show ((m + 1 : Nat) : Int) - 1 = m from by omega]
      refine cl (addr_spec (t.ext hx4.1) (by omega) hm64) ?_
      rintro _ _ ⟨rfl, rfl⟩
      refine ix (j := ps'.length) rfl (by simp only [List.length_cons]; omega) ?_
      refine ld (v := ptr b1) (((hx2.trans hx24).1.cels hcs).get hget) ?_
      refine cl (without_spec (hn1.ext hx4.1) (a := dig m p) ⟨(p, y), mem_ag.2 ⟨hy, rfl⟩, rfl⟩) ?_
      rintro _ w5 ⟨hx5, c, nc, lc, rfl, hnc, rc, hput1⟩
      refine ⟨by omega, by omega, _, up_slice', ?_⟩
      have hx05 := hx4.trans hx5
      have hr2 : Rw w5.heap (.slice (some ⟨g, 0, none⟩) ps'.length cap) ps'.length (ps'.reverse.map fun c => ptr c.1) := by
        have h1 := hr.ext (hx2.trans (hx24.trans hx5)).1
        rw [List.reverse_cons, List.map_append, List.append_assoc] at h1
        rcases h1.take (m := ps'.length) with h | h
        · exact h
        · simp at h
      refine cl (up_spec (X := []) (tr.ext hx05.1) hq (hway'.ext hx05.1) hr2 rc (by omega) (fun e he => ?_) (fun e he => by cases he) (fun e => ?_)) ?_
      · rcases (hput1.mem e).1 he with h | ⟨h, -⟩
        · cases h
        · exact shr_up (mem_ag.1 h).2 hle
      · rw [hput1.mem e, hag']
        constructor
        · rintro (h | ⟨h, hne⟩)
          · cases h
          · exact .inr ⟨h, fun e2 => hne (by rw [e2])⟩
        · rintro (h | ⟨h, hne⟩)
          · cases h
          · refine .inr ⟨h, fun hd => hne ?_⟩
            have h1 : e ∈ ag m p l := mem_ag.2 ⟨(mem_ag.1 h).1, shr_down (by rw [(hn1.ok e h).1, hq]) (mem_ag.1 h).2 hd⟩
            rw [hag] at h1
            exact (ag_zero.1 h1).2
      rintro _ w6 ⟨hx6, b', l', rfl, hb', tr', hput⟩
      exact ⟨hx05.trans hx6, .inr ⟨b', l', rfl, by have := hx05.1.1; omega, ⟨y, hy⟩, tr', hput⟩⟩
  · have fnd : CallK Try.prog F_tree_found [v] (fun r w' => Ext w1 w' ∧ r = .tuple #[nilE, .bool false]) w1 := by
      rcases hway.leafless with rfl | ⟨b1, n1, ps', rfl, hn1⟩
      · obtain ⟨a, cap, rfl⟩ := hr.form
        exact found_nil_spec cap a w1
      · refine (found_spec (j := ps'.length) (hn1.ext hx1.1) (by simpa using hr) ?_ (by simp only [List.length_cons] at hlv; omega)).mono ?_
        · rw [List.getElem?_append_right (by simp)]
          simp
        · rintro r w' ⟨h1, ⟨-, h2⟩ | ⟨h2, -⟩⟩
          · exact ⟨h1, h2⟩
          · omega
    refine cl fnd ?_
    rintro _ w2 ⟨hx2, rfl⟩
    refine al ?_
    intro nb w3 hnb hx3 hsz3 hblk3
    refine st hblk3 rfl rfl rfl ?_
    intro w4 u4
    have hx24 : Ext w2 w4 := hx3.upd (show w2.heap.size ≤ nb by omega) u4
    exact ⟨(hx1.trans hx2).trans hx24, .inl ⟨rfl, nil_of_ag h0⟩⟩

end Go.Proofs.Ytlpndcfkjkbeoaa

namespace Go.Proofs.Ytlpndcfkjkbeoaa
open Go Go.Pan

/-! ### the document's own answers: layer 1 -/

theorem ref_bit_spec {c n : Nat} (hc : c < 2 ^ 64) (hn : n < 64) (w : World) : CallK Try.prog F_ref01_Bit [U c, I n] (fun r w' => w = w' ∧ r = I (c / 2 ^ n % 2 : Nat)) w := by
  refine e_ref01_Bit rfl ?_
  refine ⟨by omega, nm (shr_nat c n 64 (by omega)) ?_⟩
  refine ⟨by decide, nm (v := ((c / 2 ^ n % 2 : Nat) : Int)) ?_ ?_⟩
  · rw [Int.tmod_eq_emod_of_nonneg (Int.natCast_nonneg _)]; rfl
  refine nm (sml64 (by omega)) ?_
  exact ⟨rfl, rfl⟩

theorem ref_addr_spec {v : Value} {p : List Nat} {w : World} (s : Sl w.heap v p) (hp : p.length ≤ 16) {n : Nat} (hn : n < 64) :
    CallK Try.prog F_ref01_Addr [v, I n] (fun r w' => w = w' ∧ r = I (dig n p)) w := by
  have hs := s.small
  obtain ⟨a, cap, rfl⟩ := s.form
  refine e_ref01_Addr rfl ?_
  refine lp (fun j : Nat => [(0, .slice a p.length cap), (1, I n), (6, I j), (5, I (dig n (p.take j)))]) (fun j w' => w = w' ∧ j ≤ p.length) (fun j => p.length - j) 0 ⟨rfl, rfl, rfl, rfl, trivial⟩ ⟨rfl, by omega⟩ ?_
  rintro j e _ ⟨rfl, hj⟩
  refine ts (fun h1 => ?_) (fun h1 => ?_)
  · have hj' : j < p.length := by omega
    have hd := dig_le n (p.take j) (by simp; omega)
    obtain ⟨b, o, rfl, hc⟩ : ∃ b o, a = some ⟨b, o, none⟩ ∧ ∀ j c, p[j]? = some c → cel w.heap ⟨b, o + j, none⟩ = some (U c) := by
      generalize hL : p.length = L at s hj'
      cases s with
      | nil => simp at hL; omega
      | some b o _ _ hc _ => exact ⟨b, o, rfl, hc⟩
    refine nm (v := ((2 * dig n (p.take j) : Nat) : Int)) (wr64 (by simp) (by omega) (by omega)) ?_
    refine ix rfl hj' ?_
    refine ld (v := U p[j]) (by rw [Nat.mul_one]; exact hc j p[j] (by simp)) ?_
    refine cl (ref_bit_spec (hs _ (List.getElem_mem hj')) hn _) ?_
    rintro _ _ ⟨rfl, rfl⟩
    refine nm (v := ((dig n (p.take (j + 1)) : Nat) : Int)) ?_ ?_
    · have h3 : p[j] / 2 ^ n % 2 < 2 := Nat.mod_lt _ (by decide)
      rw [take_snoc p j hj', dig_snoc]
      exact wr64 (by simp) (by omega) (by omega)
    refine nm (inc64 (by omega)) ?_
    exact ⟨j + 1, ⟨⟨rfl, rfl, rfl, rfl, trivial⟩, rfl, hj'⟩, by omega⟩
  · have hj' : j = p.length := by omega
    subst hj'
    refine ⟨rfl, ?_⟩
    rw [List.take_length]
    rfl

theorem ref_part_spec {v u : Value} {p q : List Nat} {w : World} (s : Sl w.heap v p) (t : Sl w.heap u q) (hl : p.length = q.length) (h16 : p.length ≤ 16) :
    CallK Try.prog F_ref01_Part [v, u] (fun r w' => w = w' ∧ r = I ((top p q : Int) - 1)) w := by
  refine e_ref01_Part rfl ?_
  refine lp (fun j : Nat => [(0, v), (1, u), (5, I ((j : Int) - 1))]) (fun j w' => w = w' ∧ j ≤ 64 ∧ shr j p = shr j q) (fun j => j) 64 ⟨rfl, rfl, rfl, trivial⟩ ⟨rfl, Nat.le_refl _, by rw [shr64 s.small, shr64 t.small, hl]⟩ ?_
  rintro j e _ ⟨rfl, hj, hsh⟩
  refine ts (fun g => ?_) (fun g => ?_)
  · obtain ⟨i, rfl⟩ : ∃ i, j = i + 1 := ⟨j - 1, by omega⟩
    rw [show ((i + 1 : Nat) : Int) - 1 = i from by omega]
    refine cl (ref_addr_spec s h16 (by omega)) ?_
    rintro _ _ ⟨rfl, rfl⟩
    refine cl (ref_addr_spec t (by omega) (by omega)) ?_
    rintro _ _ ⟨rfl, rfl⟩
    refine ts (fun g2 => ?_) (fun g2 => ?_)
    · refine nm (v := ((i : Nat) : Int) - 1) (wr64 rfl (by omega) (by omega)) ?_
      exact ⟨i, ⟨⟨rfl, rfl, rfl, trivial⟩, rfl, by omega, shr_down hl hsh (by omega)⟩, by omega⟩
    · refine ⟨rfl, ?_⟩
      have h1 : top p q ≤ i + 1 := (top_le hl).2 hsh
      have h2 : ¬ top p q ≤ i := fun h => by
        have := dig_up ((top_le hl).1 h) (Nat.le_refl i)
        omega
      rw [show top p q = i + 1 from by omega, show ((i + 1 : Nat) : Int) - 1 = i from by omega]
      rfl
  · have : j = 0 := by omega
    subst this
    refine ⟨rfl, ?_⟩
    have h1 : top p q ≤ 0 := (top_le hl).2 hsh
    rw [show top p q = 0 from by omega]
    rfl

theorem ref_cmp_spec {v u : Value} {p q : List Nat} {w : World} (s : Sl w.heap v p) (t : Sl w.heap u q) (hl : p.length = q.length) (h16 : p.length ≤ 16) :
    CallK Try.prog F_ref01_Cmp [v, u] (fun r w' => w = w' ∧ r = I (cmpZ p q)) w := by
  have h64 := top_le64 s.small t.small
  refine e_ref01_Cmp rfl ?_
  refine cl (ref_part_spec s t hl h16) ?_
  rintro _ _ ⟨rfl, rfl⟩
  refine ts (fun g => ?_) (fun g => ?_)
  · have h0 : p = q := (top_zero hl).1 (by omega)
    subst h0
    refine ⟨rfl, ?_⟩
    unfold cmpZ
    rw [if_neg (Nat.lt_irrefl _), if_neg (Nat.lt_irrefl _)]
    rfl
  · obtain ⟨i, hi⟩ : ∃ i, top p q = i + 1 := ⟨top p q - 1, by omega⟩
    rw [hi, show ((i + 1 : Nat) : Int) - 1 = i from by omega]
    have hsh : shr (i + 1) p = shr (i + 1) q := (top_le hl).1 (by omega)
    have hne : dig i p ≠ dig i q := fun h => by
      have := (top_le hl).2 (shr_down hl hsh h)
      omega
    refine cl (ref_addr_spec s h16 (by omega)) ?_
    rintro _ _ ⟨rfl, rfl⟩
    refine cl (ref_addr_spec t (by omega) (by omega)) ?_
    rintro _ _ ⟨rfl, rfl⟩
    refine ts (fun g2 => ?_) (fun g2 => ?_)
    · refine ⟨rfl, ?_⟩
      have := Z_lt_of_dig hl (by omega) s.small t.small hsh (show dig i p < dig i q by omega)
      unfold cmpZ
      rw [if_pos this]
      rfl
    · refine ⟨rfl, ?_⟩
      have := Z_lt_of_dig hl.symm (by omega) t.small s.small hsh.symm (show dig i q < dig i p by omega)
      unfold cmpZ
      rw [if_neg (by omega), if_pos this]
      rfl

theorem Sl.place {h : Array Obj} {a : Option Addr} {cap : Nat} {p : List Nat} (s : Sl h (.slice a p.length cap) p) (hp : 0 < p.length) : ∃ b o, a = Option.some ⟨b, o, none⟩ ∧ ∀ j c, p[j]? = Option.some c → cel h ⟨b, o + j, none⟩ = Option.some (U c) := by
  generalize hL : p.length = L at s hp
  cases s with
  | nil => omega
  | some b o _ _ hc _ => exact ⟨b, o, rfl, hc⟩

theorem same_spec {v u : Value} {p q : List Nat} {w : World} (s : Sl w.heap v p) (t : Sl w.heap u q) (hl : p.length ≤ 1000000) :
    CallK Try.prog F_ref01_Same [v, u] (fun r w' => Ext w w' ∧ r = .bool (decide (p = q))) w := by
  obtain ⟨a, cap, rfl⟩ := s.form
  obtain ⟨a', cap', rfl⟩ := t.form
  refine e_ref01_Same rfl ?_
  refine ts (fun g => ?_) (fun g => ?_)
  rotate_left
  · exact ⟨Ext.refl _, by rw [decide_eq_false (fun h => g (by rw [h]))]; rfl⟩
  have hpq : p.length = q.length := by omega
  refine lp (fun j : Nat => [(0, .slice a p.length cap), (1, .slice a' q.length cap'), (5, I j)]) (fun j w' => Ext w w' ∧ j ≤ p.length ∧ p.take j = q.take j) (fun j => p.length - j) 0 ⟨rfl, rfl, rfl, trivial⟩ ⟨Ext.refl w, by omega, rfl⟩ ?_
  rintro j e w1 ⟨hx, hj, heq⟩
  refine ts (fun g => ?_) (fun g => ?_)
  · have hj1 : j < p.length := by omega
    have hj2 : j < q.length := by omega
    obtain ⟨b, o, rfl, hc⟩ := Sl.place s (by omega)
    obtain ⟨b', o', rfl, hc'⟩ := Sl.place t (by omega)
    refine ix rfl hj1 ?_
    refine ld (v := U p[j]) (hx.cel (by rw [Nat.mul_one]; exact hc j p[j] (by simp))) ?_
    refine ix rfl hj2 ?_
    refine ld (v := U q[j]) (hx.cel (by rw [Nat.mul_one]; exact hc' j q[j] (by simp))) ?_
    refine ts (fun g2 => ?_) (fun g2 => ?_)
    · refine nm (inc64 (by omega)) ?_
      exact ⟨j + 1, ⟨⟨rfl, rfl, rfl, trivial⟩, hx.trans (Ext.drw _), hj1, by rw [take_snoc p j hj1, take_snoc q j hj2, heq, show p[j] = q[j] by omega]⟩, by omega⟩
    · refine ⟨hx.trans (Ext.drw _), ?_⟩
      rw [decide_eq_false (fun h => g2 (by subst h; rfl))]
      rfl
  · have hj' : j = p.length := by omega
    subst hj'
    rw [List.take_length, hpq, List.take_length] at heq
    exact ⟨hx, by rw [decide_eq_true heq]; rfl⟩

end Go.Proofs.Ytlpndcfkjkbeoaa

namespace Go.Proofs.Ytlpndcfkjkbeoaa
open Go Go.Pan

/-! ### lists of entries; the document's list of a tree (layer 6) -/

def entV (x : Value × Nat) : List Value := [x.1, U x.2]
theorem entV_len (x : Value × Nat) : (entV x).length = 2 := rfl

/-- rows that read as entries -/
structure Ents (h : Array Obj) (R : List (Value × Nat)) (l : List Ent) : Prop where
  len : R.length = l.length
  ok : ∀ i (h1 : i < R.length) (h2 : i < l.length), Sl h R[i].1 l[i].1 ∧ R[i].2 = l[i].2

/-- the slice value v reads as the entries l -/
structure EntL (h : Array Obj) (v : Value) (l : List Ent) : Prop where
  ex : ∃ R, Rw h v R.length (R.flatMap entV) ∧ Ents h R l

theorem Ents.ext {h h' : Array Obj} (x : HExt h h') {R : List (Value × Nat)} {l : List Ent} (e : Ents h R l) : Ents h' R l := ⟨e.len, fun i h1 h2 => ⟨(e.ok i h1 h2).1.ext x, (e.ok i h1 h2).2⟩⟩
theorem EntL.ext {h h' : Array Obj} (x : HExt h h') {v : Value} {l : List Ent} (e : EntL h v l) : EntL h' v l := by
  obtain ⟨R, hr, he⟩ := e
  exact ⟨R, hr.ext x, he.ext x⟩
theorem EntL.form {h : Array Obj} {v : Value} {l : List Ent} (e : EntL h v l) : ∃ a cap, v = .slice a l.length cap := by
  obtain ⟨R, hr, he⟩ := e
  rw [← he.len]; exact hr.form

theorem Ents.nil (h : Array Obj) : Ents h [] [] := ⟨rfl, fun i h1 => by simp at h1⟩
theorem Ents.append {h : Array Obj} {R S : List (Value × Nat)} {l m : List Ent} (e : Ents h R l) (f : Ents h S m) : Ents h (R ++ S) (l ++ m) := by
  refine ⟨by rw [List.length_append, List.length_append, e.len, f.len], fun i h1 h2 => ?_⟩
  rcases Nat.lt_or_ge i R.length with g | g
  · rw [List.getElem_append_left g, List.getElem_append_left (by have := e.len; omega)]
    exact e.ok i g _
  · have := e.len
    rw [List.length_append] at h1 h2
    rw [List.getElem_append_right g, List.getElem_append_right (by omega)]
    have h3 := f.ok (i - R.length) (by omega) (by omega)
    simp only [this] at h3 ⊢
    exact h3
theorem Ents.take {h : Array Obj} {R : List (Value × Nat)} {l : List Ent} (e : Ents h R l) (n : Nat) : Ents h (R.take n) (l.take n) := by
  refine ⟨by rw [List.length_take, List.length_take, e.len], fun i h1 h2 => ?_⟩
  rw [List.getElem_take, List.getElem_take]
  exact e.ok i _ _
theorem Ents.drop {h : Array Obj} {R : List (Value × Nat)} {l : List Ent} (e : Ents h R l) (n : Nat) : Ents h (R.drop n) (l.drop n) := by
  refine ⟨by rw [List.length_drop, List.length_drop, e.len], fun i h1 h2 => ?_⟩
  rw [List.getElem_drop, List.getElem_drop]
  exact e.ok _ _ _
theorem Ents.one {h : Array Obj} {v : Value} {p : List Nat} (s : Sl h v p) (x : Nat) : Ents h [(v, x)] [(p, x)] := by
  refine ⟨rfl, fun i h1 h2 => ?_⟩
  have : i = 0 := by simp at h1; omega
  subst this
  exact ⟨s, rfl⟩

theorem Ents.flat {h : Array Obj} {R : List (Value × Nat)} {l : List Ent} (e : Ents h R l) : (R.flatMap entV).all flat = true := by
  apply List.all_eq_true.2
  intro v hv
  rw [List.mem_flatMap] at hv
  obtain ⟨x, hx, hv⟩ := hv
  obtain ⟨i, hi, rfl⟩ := List.getElem_of_mem hx
  obtain ⟨a, cap, ha⟩ := (e.ok i hi (by have := e.len; omega)).1.form
  unfold entV at hv
  rcases List.mem_cons.1 hv with h | h
  · rw [h, ha]; rfl
  · rw [List.mem_singleton.1 h]; rfl

theorem EntL.place {h : Array Obj} {a : Option Addr} {cap : Nat} {l : List Ent} (e : EntL h (.slice a l.length cap) l) {j : Nat} (hj : j < l.length) :
    ∃ b o pv, a = some ⟨b, o, none⟩ ∧ cel h ⟨b, o + j * 2 + 0, none⟩ = some pv ∧ cel h ⟨b, o + j * 2 + 1, none⟩ = some (U l[j].2) ∧ Sl h pv l[j].1 := by
  obtain ⟨R, hr, he⟩ := e
  rw [he.len] at hr
  obtain ⟨b, o, rfl, hcs⟩ := hr.place (by omega)
  have hjR : j < R.length := by have := he.len; omega
  have hok := he.ok j hjR hj
  refine ⟨b, o, R[j].1, rfl, ?_, ?_, hok.1⟩
  · rw [Nat.add_assoc]
    refine hcs.get ?_
    rw [flat_get entV_len R j 0 hjR (by decide)]; rfl
  · rw [Nat.add_assoc]
    refine hcs.get ?_
    rw [flat_get entV_len R j 1 hjR (by decide), ← hok.2]; rfl

/-- where a point stands in a list -/
structure PlaceAt (l : List Ent) (q : List Nat) (i : Nat) (ok : Bool) : Prop where
  le : i ≤ l.length
  lo : ∀ j (h : j < l.length), j < i → Z l[j].1 < Z q
  hi : ∀ j (h : j < l.length), i ≤ j → Z q ≤ Z l[j].1
  ok : ok = true ↔ ∃ h : i < l.length, l[i].1 = q

theorem place_spec {v u : Value} {l : List Ent} {q : List Nat} {w : World} (e : EntL w.heap v l) (t : Sl w.heap u q) (hs : Srt l) (hl : ∀ e ∈ l, e.1.length = q.length ∧ small 64 e.1) (hq : q.length ≤ 16) (hn : l.length ≤ 65536) :
    CallK Try.prog F_ref06_Place [v, u] (fun r w' => w = w' ∧ ∃ (i : Nat) (ok : Bool), r = .tuple #[I i, .bool ok] ∧ PlaceAt l q i ok) w := by
  obtain ⟨a, cap, rfl⟩ := e.form
  refine e_ref06_Place rfl ?_
  refine lp (fun j : Nat => [(0, .slice a l.length cap), (1, u), (6, I j)]) (fun j w' => w = w' ∧ j ≤ l.length ∧ ∀ i (h : i < l.length), i < j → Z l[i].1 < Z q) (fun j => l.length - j) 0 ⟨rfl, rfl, rfl, trivial⟩ ⟨rfl, Nat.zero_le _, fun i _ h => absurd h (Nat.not_lt_zero _)⟩ ?_
  rintro j e0 _ ⟨rfl, hj, hlo⟩
  refine ts (fun g => ?_) (fun g => ?_)
  · have hj' : j < l.length := by omega
    obtain ⟨b, o, pv, rfl, hc1, hc2, hsl⟩ := e.place hj'
    have hlj := hl _ (List.getElem_mem hj')
    refine ix rfl hj' ?_
    refine ⟨by decide, ld (v := pv) hc1 ?_⟩
    refine cl (ref_cmp_spec hsl t hlj.1 (by omega)) ?_
    rintro _ _ ⟨rfl, rfl⟩
    have hcz : (cmpZ l[j].1 q < 0 ↔ Z l[j].1 < Z q) ∧ (cmpZ l[j].1 q = 0 ↔ Z l[j].1 = Z q) := by
      unfold cmpZ
      split
      · exact ⟨by simp; assumption, by simp; omega⟩
      · split
        · exact ⟨by simp; omega, by simp; omega⟩
        · exact ⟨by simp; omega, by simp; omega⟩
    refine ts (fun g2 => ?_) (fun g2 => ?_)
    · have hge : Z q ≤ Z l[j].1 := Nat.le_of_not_lt fun h => by have := hcz.1.2 h; omega
      have hhi : ∀ i (h : i < l.length), j ≤ i → Z q ≤ Z l[i].1 := fun i h hji => by
        rcases Nat.eq_or_lt_of_le hji with g | g
        · subst g; exact hge
        · have := List.pairwise_iff_getElem.1 hs j i hj' h g
          omega
      refine ts (fun g3 => ?_) (fun g3 => ?_)
      · refine ⟨rfl, j, true, rfl, hj, hlo, hhi, ⟨fun _ => ⟨hj', (Z_inj hlj.1 hlj.2 t.small).1 (hcz.2.1 g3)⟩, fun _ => rfl⟩⟩
      · refine ⟨rfl, j, false, rfl, hj, hlo, hhi, ⟨fun h => (by cases h), fun ⟨_, h⟩ => absurd (hcz.2.2 (by rw [h])) g3⟩⟩
    · refine nm (inc64 (by omega)) ?_
      refine ⟨j + 1, ⟨⟨rfl, rfl, rfl, trivial⟩, rfl, hj', fun i h hi => ?_⟩, by omega⟩
      rcases Nat.eq_or_lt_of_le (show i ≤ j by omega) with g | g
      · subst g; exact hcz.1.1 (by omega)
      · exact hlo i h g
  · have hj' : j = l.length := by omega
    subst hj'
    exact ⟨rfl, l.length, false, rfl, Nat.le_refl _, hlo, fun i h hi => absurd h (by omega), ⟨fun h => (by cases h), fun ⟨h, _⟩ => absurd h (Nat.lt_irrefl _)⟩⟩

end Go.Proofs.Ytlpndcfkjkbeoaa

namespace Go.Proofs.Ytlpndcfkjkbeoaa
open Go Go.Pan

/-- a list that is somewhere, with its room, its points as they stood in a (former) heap hp -/
structure EntP (hp h : Array Obj) (v : Value) (l : List Ent) : Prop where
  ex : ∃ b o cap R, v = .slice (some ⟨b, o, none⟩) l.length cap ∧ l.length ≤ cap ∧ celsAt h ⟨b, o, none⟩ (R.flatMap entV) ∧ Ents hp R l
/-- what the document's lists are -/
abbrev EntS (h : Array Obj) (v : Value) (l : List Ent) : Prop := EntP h h v l
theorem EntP.row {hp h h' : Array Obj} (x : HExt h h') {v : Value} {l : List Ent} (e : EntP hp h v l) : EntP hp h' v l := by
  obtain ⟨b, o, cap, R, rfl, h1, h2, h3⟩ := e
  exact ⟨b, o, cap, R, rfl, h1, x.cels h2, h3⟩
theorem EntP.pts {hp hp' h : Array Obj} (x : HExt hp hp') {v : Value} {l : List Ent} (e : EntP hp h v l) : EntP hp' h v l := by
  obtain ⟨b, o, cap, R, rfl, h1, h2, h3⟩ := e
  exact ⟨b, o, cap, R, rfl, h1, h2, h3.ext x⟩
theorem EntP.ext {h h' : Array Obj} (x : HExt h h') {v : Value} {l : List Ent} (e : EntP h h v l) : EntP h' h' v l := (e.row x).pts x
theorem EntS.ext {h h' : Array Obj} (x : HExt h h') {v : Value} {l : List Ent} (e : EntS h v l) : EntS h' v l := (e.row x).pts x
theorem EntP.toL {hp h : Array Obj} (x : HExt hp h) {v : Value} {l : List Ent} (e : EntP hp h v l) : EntL h v l := by
  obtain ⟨b, o, cap, R, rfl, h1, h2, h3⟩ := e
  exact ⟨R, by rw [h3.len]; exact .some b o cap l.length _ h2, h3.ext x⟩
theorem EntS.toL {h : Array Obj} {v : Value} {l : List Ent} (e : EntS h v l) : EntL h v l := EntP.toL (HExt.refl h) e

theorem srt_inj {l : List Ent} (h : Srt l) {e f : Ent} (he : e ∈ l) (hf : f ∈ l) (hp : e.1 = f.1) : e = f := by
  obtain ⟨i, hi, rfl⟩ := List.getElem_of_mem he
  obtain ⟨j, hj, rfl⟩ := List.getElem_of_mem hf
  rcases Nat.lt_trichotomy i j with g | g | g
  · have := List.pairwise_iff_getElem.1 h i j hi hj g; rw [hp] at this; omega
  · subst g; rfl
  · have := List.pairwise_iff_getElem.1 h j i hj hi g; rw [hp] at this; omega

/-- sorted lists with the same members are the same -/
theorem srt_ext : ∀ {l m : List Ent}, Srt l → Srt m → (∀ x, x ∈ l ↔ x ∈ m) → l = m
  | [], [], _, _, _ => rfl
  | [], y :: m, _, _, h => by have := (h y).2 (by simp); simp at this
  | x :: l, [], _, _, h => by have := (h x).1 (by simp); simp at this
  | x :: l, y :: m, hl, hm, h => by
    obtain ⟨h1, h2⟩ := List.pairwise_cons.1 hl
    obtain ⟨h3, h4⟩ := List.pairwise_cons.1 hm
    have e : x = y := by
      rcases List.mem_cons.1 ((h x).1 (by simp)) with g | g
      · exact g
      · rcases List.mem_cons.1 ((h y).2 (by simp)) with g2 | g2
        · exact g2.symm
        · have := h1 y g2; have := h3 x g; omega
    subst e
    congr 1
    refine srt_ext h2 h4 fun z => ⟨fun hz => ?_, fun hz => ?_⟩
    · rcases List.mem_cons.1 ((h z).1 (by simp [hz])) with g | g
      · subst g; exact absurd (h1 z hz) (Nat.lt_irrefl _)
      · exact g
    · rcases List.mem_cons.1 ((h z).2 (by simp [hz])) with g | g
      · subst g; exact absurd (h3 z hz) (Nat.lt_irrefl _)
      · exact g

theorem PlaceAt.none {l : List Ent} {q : List Nat} {i : Nat} (hs : Srt l) (p : PlaceAt l q i false) : ∀ e ∈ l, e.1 ≠ q := by
  intro e he hq
  obtain ⟨j, hj, rfl⟩ := List.getElem_of_mem he
  have h1 : ¬ j < i := fun g => by have := p.lo j hj g; rw [hq] at this; omega
  have h2 : ¬ i < j := fun g => by
    have := List.pairwise_iff_getElem.1 hs i j (by omega) hj g
    have := p.hi i (by omega) (Nat.le_refl _)
    rw [hq] at *; omega
  have : i = j := by omega
  subst this
  have := p.ok.2 ⟨hj, hq⟩
  cases this

theorem ref_get_spec {v u : Value} {l : List Ent} {q : List Nat} {w : World} (e : EntL w.heap v l) (t : Sl w.heap u q) (hs : Srt l) (hl : ∀ e ∈ l, e.1.length = q.length ∧ small 64 e.1) (hq : q.length ≤ 16) (hn : l.length ≤ 65536) :
    CallK Try.prog F_ref06_Get [v, u] (fun r w' => w = w' ∧ ((r = .tuple #[U 0, .bool false] ∧ ∀ e ∈ l, e.1 ≠ q) ∨ ∃ y, r = .tuple #[U y, .bool true] ∧ (q, y) ∈ l)) w := by
  obtain ⟨a, cap, rfl⟩ := e.form
  refine e_ref06_Get rfl ?_
  refine cl (place_spec e t hs hl hq hn) ?_
  rintro _ _ ⟨rfl, i, ok, rfl, hp⟩
  cases ok with
  | false => exact ⟨rfl, .inl ⟨rfl, hp.none hs⟩⟩
  | true =>
    obtain ⟨hi, he⟩ := hp.ok.1 rfl
    obtain ⟨b, o, pv, rfl, hc1, hc2, hsl⟩ := e.place hi
    refine ix rfl hi ?_
    refine ⟨by decide, ld hc2 ?_⟩
    refine ⟨rfl, .inr ⟨l[i].2, rfl, ?_⟩⟩
    have := List.getElem_mem hi
    rwa [show l[i] = (q, l[i].2) from Prod.ext he rfl] at this

end Go.Proofs.Ytlpndcfkjkbeoaa

namespace Go.Proofs.Ytlpndcfkjkbeoaa
open Go Go.Pan

abbrev T_ent := T_api_Entry

theorem own_ents {w : World} {base n : Nat} {v : Value} {R : List (Value × Nat)} {l : List Ent} (h : w.ownsRow base T_ent 2 v n (R.flatMap entV)) (hv : v ≠ .slice none 0 0) {hp : Array Obj} (he : Ents hp R l) (hl : l.length = n) : EntP hp w.heap v l := by
  rcases h.2 with ⟨rfl, _⟩ | ⟨g, cap, cur, rfl, hb, hg, hc, _, _, ht⟩
  · exact absurd rfl hv
  · subst hl
    refine ⟨g, 0, cap, R, rfl, hc, ?_, he⟩
    rw [← ht]
    refine celsAt_blk (cs := cur.toList) (t := T_ent) (fz := (0, 0)) (by rw [Array.toArray_toList]; exact hg) ?_
    rw [List.drop_zero, List.length_take, ← List.take_take, List.take_length]

/-- a slice of a slice from i on, wherever that stands -/
theorem sub_any {b o n cap i esz : Nat} : ∃ ad : Addr, (Value.slice (if cap = (i : Int).toNat then some ⟨b, o, none⟩ else (some (⟨b, o, none⟩ : Addr)).map (·.add ((i : Int).toNat * esz))) (n - (i : Int).toNat) (cap - (i : Int).toNat)) = .slice (some ad) (n - i) (cap - i) ∧ (i < cap → ad = ⟨b, o + i * esz, none⟩) := by
  rw [Int.toNat_natCast]
  by_cases h : cap = i
  · rw [if_pos h]; exact ⟨_, rfl, fun g => by omega⟩
  · rw [if_neg h, Option.map_some, add_off]; exact ⟨_, rfl, fun _ => rfl⟩
theorem up_any {b o cap i esz : Nat} : (Value.slice (if cap = 0 then some ⟨b, o, none⟩ else (some (⟨b, o, none⟩ : Addr)).map (·.add (0 * esz))) ((i : Int).toNat - 0) (cap - 0)) = .slice (some ⟨b, o, none⟩) i cap := by
  rw [Int.toNat_natCast]
  split
  · rfl
  · rw [Option.map_some, add_off, Nat.zero_mul]; rfl

theorem ref_del_p {v u : Value} {l : List Ent} {q : List Nat} {w : World} {hp0 : Array Obj} (xp : HExt hp0 w.heap) (e : EntP hp0 w.heap v l) (t : Sl w.heap u q) (hs : Srt l) (hl : ∀ e ∈ l, e.1.length = q.length ∧ small 64 e.1) (hq : q.length ≤ 16) (hn : l.length ≤ 65536) :
    CallK Try.prog F_ref06_Del [v, u] (fun r w' => Ext w w' ∧ ∃ l', EntP hp0 w'.heap r l' ∧ Srt l' ∧ PutL [] q l l' ∧ l'.length ≤ l.length) w := by
  have eL := e.toL xp
  obtain ⟨b, o, cap, R, rfl, hcap, hcs, he⟩ := e
  refine e_ref06_Del rfl ?_
  refine cl (place_spec eL t hs hl hq hn) ?_
  rintro _ _ ⟨rfl, i, ok, rfl, hp⟩
  cases ok with
  | false =>
    refine ⟨Ext.refl _, l, ⟨b, o, cap, R, rfl, hcap, hcs, he⟩, hs, fun e => ?_, Nat.le_refl _⟩
    constructor
    · exact fun h => .inr ⟨h, hp.none hs e h⟩
    · rintro (h | ⟨h, -⟩)
      · cases h
      · exact h
  | true =>
    obtain ⟨hi, hiq⟩ := hp.ok.1 rfl
    have hRl := he.len
    refine ⟨by omega, by omega, _, up_any, ?_⟩
    refine nm (v := ((i + 1 : Nat) : Int)) (wr64 (by simp) (by omega) (by omega)) ?_
    obtain ⟨ad, had, hade⟩ := sub_any (b := b) (o := o) (n := l.length) (cap := cap) (i := i + 1) (esz := 2)
    refine ⟨by omega, by omega, _, had, ?_⟩
    refine ⟨rfl, rfl, by decide, al ?_⟩
    intro nb w1 hnb hx1 hsz1 hblk1
    refine ⟨hx1, ?_⟩
    have hx1' : Ext w w1 := hx1
    have hnb' : nb = w.heap.size := hnb
    refine app tt_ok rfl rfl rfl rfl (by decide) rfl rfl (own_new (base := w.heap.size) (e := T_ent) (size := 2) (by omega) hblk1) rfl (news := (R.take i).flatMap entV) ?_ ?_ ?_ (by omega) (by decide) ?_ ?_
    · rw [flat_len entV_len, List.length_take]; omega
    · rw [← flat_take entV_len]
      exact celsAt_cells fun j v hj => (hx1'.1.cels hcs).get (by rw [List.getElem?_take] at hj; split at hj <;> first | exact hj | cases hj)
    · exact (he.take i).flat
    · have := hx1'.1.1; omega
    intro v2 w2 ho2 hg2 hn2
    have hx2 : Ext w w2 := hx1'.grown hg2 (own_row (own_new (base := w.heap.size) (e := T_ent) (size := 2) (by omega) hblk1))
    refine ⟨hx2, ?_⟩
    have hv2 : v2 ≠ .slice none 0 0 := fun h => by have := (hn2.1 h).1; cases this
    rw [List.nil_append, Nat.zero_add] at ho2
    refine app tt_ok rfl rfl rfl rfl (by decide) rfl rfl ho2 rfl (news := (R.drop (i + 1)).flatMap entV) ?_ ?_ ?_ (by omega) (by decide) ?_ ?_
    · rw [flat_len entV_len, List.length_drop]; omega
    · rcases Nat.lt_or_ge (i + 1) l.length with g | g
      · rw [hade (by omega), ← flat_drop entV_len]
        exact celsAt_cells fun j v hj => by
          rw [List.getElem?_drop] at hj
          have := (hx2.1.cels hcs).get hj
          rwa [← Nat.add_assoc] at this
      · rw [List.drop_eq_nil_of_le (by omega)]
        intro j v hj; simp at hj
    · exact (he.drop (i + 1)).flat
    · have := hx2.1.1; omega
    intro v3 w3 ho3 hg3 hn3
    have hx3 : Ext w w3 := hx2.grown hg3 (own_row ho2)
    have hv3 : v3 ≠ .slice none 0 0 := fun h => hv2 (hn3.1 h).1
    rw [← List.flatMap_append] at ho3
    have hsub : ∀ e, e ∈ l.take i ++ l.drop (i + 1) ↔ e ∈ l ∧ e.1 ≠ q := fun e => by
      have hsplit : l = l.take i ++ l[i] :: l.drop (i + 1) := by rw [← List.drop_eq_getElem_cons hi, List.take_append_drop]
      have hs' := hs
      rw [hsplit] at hs'
      have hne : ∀ f ∈ l.take i ++ l.drop (i + 1), f.1 ≠ q := fun f hf hfq => by
        rcases List.mem_append.1 hf with h | h
        · have := (List.pairwise_append.1 hs').2.2 f h l[i] (.head _)
          rw [hfq, hiq] at this; omega
        · have := (List.pairwise_cons.1 (List.pairwise_append.1 hs').2.1).1 f h
          rw [hfq, hiq] at this; omega
      constructor
      · intro h
        refine ⟨?_, hne e h⟩
        rcases List.mem_append.1 h with h | h
        · exact List.mem_of_mem_take h
        · exact List.mem_of_mem_drop h
      · rintro ⟨h, hq⟩
        rw [hsplit] at h
        rcases List.mem_append.1 h with h | h
        · exact List.mem_append.2 (.inl h)
        · rcases List.mem_cons.1 h with h | h
          · exact absurd (by rw [h]; exact hiq) hq
          · exact List.mem_append.2 (.inr h)
    refine ⟨hx3, l.take i ++ l.drop (i + 1), own_ents ho3 hv3 ((he.take i).append (he.drop (i + 1))) (by rw [List.length_append, List.length_take, List.length_drop]; omega), ?_, fun e => ?_, by rw [List.length_append, List.length_take, List.length_drop]; omega⟩
    · refine List.Pairwise.sublist ?_ hs
      conv => rhs; rw [← List.take_append_drop i l, List.drop_eq_getElem_cons hi]
      exact List.Sublist.append (List.Sublist.refl _) (List.sublist_cons_self _ _)
    · rw [hsub e]; simp

theorem ref_del_spec {v u : Value} {l : List Ent} {q : List Nat} {w : World} (e : EntS w.heap v l) (t : Sl w.heap u q) (hs : Srt l) (hl : ∀ e ∈ l, e.1.length = q.length ∧ small 64 e.1) (hq : q.length ≤ 16) (hn : l.length ≤ 65536) :
    CallK Try.prog F_ref06_Del [v, u] (fun r w' => Ext w w' ∧ ∃ l', EntS w'.heap r l' ∧ Srt l' ∧ PutL [] q l l' ∧ l'.length ≤ l.length) w :=
  (ref_del_p (HExt.refl _) e t hs hl hq hn).mono fun _ _ ⟨h1, l', h2, h3⟩ => ⟨h1, l', h2.pts h1.1, h3⟩

end Go.Proofs.Ytlpndcfkjkbeoaa

namespace Go.Proofs.Ytlpndcfkjkbeoaa
open Go Go.Pan

theorem ref_put_p {v u : Value} {l : List Ent} {q : List Nat} {w : World} {hp0 : Array Obj} (xp : HExt hp0 w.heap) (e : EntP hp0 w.heap v l) (t : Sl hp0 u q) (hs : Srt l) (hl : ∀ e ∈ l, e.1.length = q.length ∧ small 64 e.1) (hq : q.length ≤ 16) (hn : l.length ≤ 60000) (x : Nat) :
    CallK Try.prog F_ref06_Put [v, u, U x] (fun r w' => Ext w w' ∧ ∃ l', EntP hp0 w'.heap r l' ∧ Srt l' ∧ PutL [(q, x)] q l l' ∧ l'.length ≤ l.length + 1) w := by
  obtain ⟨ua, ucap, rfl⟩ := t.form
  refine e_ref06_Put rfl ?_
  refine cl (ref_del_p xp e (t.ext xp) hs hl hq (by omega)) ?_
  rintro v1 w0 ⟨hx0, l1, e1, hs1, hp1, hle1⟩
  have hl1 : ∀ e ∈ l1, e.1.length = q.length ∧ small 64 e.1 := fun e he => by
    rcases (hp1 e).1 he with h | ⟨h, -⟩
    · cases h
    · exact hl e h
  have hlen1 : l1.length ≤ 65536 := by omega
  have xp0 := xp.trans hx0.1
  have e1L := e1.toL xp0
  have t0 := t.ext xp0
  obtain ⟨b, o, cap, R, rfl, hcap, hcs, he⟩ := e1
  refine cl (place_spec e1L t0 hs1 hl1 hq hlen1) ?_
  rintro _ _ ⟨rfl, i, ok, rfl, hp⟩
  have hRl := he.len
  have hil := hp.le
  refine ⟨rfl, rfl, by decide, al ?_⟩
  intro nb w1 hnb hx1 hsz1 hblk1
  refine ⟨by omega, by omega, _, up_any, ?_⟩
  have hown1 := own_new (w := w1) (base := w0.heap.size) (e := T_ent) (size := 2) (by omega) hblk1
  refine app tt_ok rfl rfl rfl rfl (by decide) rfl rfl hown1 rfl (news := (R.take i).flatMap entV) ?_ ?_ ?_ (by omega) (by decide) ?_ ?_
  · rw [flat_len entV_len, List.length_take]; omega
  · rw [← flat_take entV_len]
    exact celsAt_cells fun j v hj => (hx1.1.cels hcs).get (by rw [List.getElem?_take] at hj; split at hj <;> first | exact hj | cases hj)
  · exact (he.take i).flat
  · have := hx1.1.1; omega
  intro v2 w2 ho2 hg2 hn2
  have hx2 : Ext w0 w2 := hx1.grown hg2 (own_row hown1)
  have hv2 : v2 ≠ .slice none 0 0 := fun h => by have := (hn2.1 h).1; cases this
  rw [List.nil_append, Nat.zero_add] at ho2
  refine ⟨rfl, rfl, by decide, al ?_⟩
  intro nb3 w3 hnb3 hx3 hsz3 hblk3
  refine app tt_ok rfl rfl rfl rfl (by decide) rfl rfl (own_keep ho2 hx3) rfl (news := entV (.slice ua q.length ucap, x)) rfl (celsAt_blk (o := 0) hblk3 rfl) rfl (by omega) (by decide) (by have := (hx2.trans hx3).1.1; omega) ?_
  intro v4 w4 ho4 hg4 hn4
  have hx4 : Ext w0 w4 := (hx2.trans hx3).grown hg4 (own_row (own_keep ho2 hx3))
  have hv4 : v4 ≠ .slice none 0 0 := fun h => hv2 (hn4.1 h).1
  obtain ⟨ad, had, hade⟩ := sub_any (b := b) (o := o) (n := l1.length) (cap := cap) (i := i) (esz := 2)
  refine ⟨by omega, by omega, _, had, ?_⟩
  refine app tt_ok rfl rfl rfl rfl (by decide) rfl rfl ho4 rfl (news := (R.drop i).flatMap entV) ?_ ?_ ?_ (by omega) (by decide) ?_ ?_
  · rw [flat_len entV_len, List.length_drop]; omega
  · rcases Nat.lt_or_ge i l1.length with g | g
    · rw [hade (by omega), ← flat_drop entV_len]
      exact celsAt_cells fun j v hj => by
        rw [List.getElem?_drop] at hj
        have := (hx4.1.cels hcs).get hj
        rwa [← Nat.add_assoc] at this
    · rw [List.drop_eq_nil_of_le (by omega)]
      intro j v hj; simp at hj
  · exact (he.drop i).flat
  · have := hx4.1.1; omega
  intro v5 w5 ho5 hg5 hn5
  have hx5 : Ext w0 w5 := hx4.grown hg5 (own_row ho4)
  have hv5 : v5 ≠ .slice none 0 0 := fun h => hv4 (hn5.1 h).1
  have hflat : (R.take i).flatMap entV ++ entV (.slice ua q.length ucap, x) ++ (R.drop i).flatMap entV = (R.take i ++ [(Value.slice ua q.length ucap, x)] ++ R.drop i).flatMap entV := by
    rw [List.flatMap_append, List.flatMap_append, List.flatMap_singleton]
  rw [hflat] at ho5
  refine ⟨hx0.trans hx5, l1.take i ++ [(q, x)] ++ l1.drop i, own_ents ho5 hv5 (((he.take i).append (Ents.one t x)).append (he.drop i)) (by simp only [List.length_append, List.length_take, List.length_drop, List.length_singleton]; omega), ?_, fun e => ?_, by simp only [List.length_append, List.length_take, List.length_drop, List.length_singleton]; omega⟩
  · have hlt : ∀ a ∈ l1.take i, Z a.1 < Z q := fun a ha => by
      obtain ⟨j, hj, rfl⟩ := List.getElem_of_mem ha
      rw [List.length_take] at hj
      rw [List.getElem_take]
      exact hp.lo j (by omega) (by omega)
    have hgt : ∀ a ∈ l1.drop i, Z q < Z a.1 := fun a ha => by
      have hm := List.mem_of_mem_drop ha
      have hne : a.1 ≠ q := by
        rcases (hp1 a).1 hm with h | h
        · cases h
        · exact h.2
      have hz : Z q ≠ Z a.1 := fun h => hne ((Z_inj (hl1 a hm).1 (hl1 a hm).2 t0.small).1 h.symm)
      obtain ⟨j, hj, rfl⟩ := List.getElem_of_mem ha
      rw [List.length_drop] at hj
      rw [List.getElem_drop] at hz ⊢
      have := hp.hi (i + j) (by omega) (by omega)
      omega
    refine List.pairwise_append.2 ⟨List.pairwise_append.2 ⟨List.Pairwise.sublist (List.take_sublist _ _) hs1, List.pairwise_singleton .., fun a ha b hb => ?_⟩, List.Pairwise.sublist (List.drop_sublist _ _) hs1, fun a ha b hb => ?_⟩
    · rw [List.mem_singleton.1 hb]; exact hlt a ha
    · rcases List.mem_append.1 ha with ha | ha
      · have := hlt a ha; have := hgt b hb; omega
      · rw [List.mem_singleton.1 ha]; exact hgt b hb
  · have hsplit : e ∈ l1 ↔ e ∈ l1.take i ∨ e ∈ l1.drop i := by
      conv => lhs; rw [← List.take_append_drop i l1]
      exact List.mem_append
    have h1 := hp1 e
    simp only [List.mem_append, List.mem_singleton]
    rw [hsplit] at h1
    simp only [List.not_mem_nil, false_or] at h1
    rw [← h1]
    constructor
    · rintro ((h | h) | h)
      · exact .inr (.inl h)
      · exact .inl h
      · exact .inr (.inr h)
    · rintro (h | h | h)
      · exact .inl (.inr h)
      · exact .inl (.inl h)
      · exact .inr h

theorem ref_put_spec {v u : Value} {l : List Ent} {q : List Nat} {w : World} (e : EntS w.heap v l) (t : Sl w.heap u q) (hs : Srt l) (hl : ∀ e ∈ l, e.1.length = q.length ∧ small 64 e.1) (hq : q.length ≤ 16) (hn : l.length ≤ 60000) (x : Nat) :
    CallK Try.prog F_ref06_Put [v, u, U x] (fun r w' => Ext w w' ∧ ∃ l', EntS w'.heap r l' ∧ Srt l' ∧ PutL [(q, x)] q l l' ∧ l'.length ≤ l.length + 1) w :=
  (ref_put_p (HExt.refl _) e t hs hl hq hn x).mono fun _ _ ⟨h1, l', h2, h3⟩ => ⟨h1, l', h2.pts h1.1, h3⟩

end Go.Proofs.Ytlpndcfkjkbeoaa

namespace Go.Proofs.Ytlpndcfkjkbeoaa
open Go Go.Pan

/-! ### trees: what is read; New -/

theorem tree_k_spec {k b : Nat} {l : List Ent} {w : World} (tr : TreeRep w.heap b k l) : CallK Try.prog F_tree_Tree_K [ptr b] (fun r w' => w = w' ∧ r = I k) w := by
  obtain ⟨⟨o, n, hb, ho⟩, -⟩ := tr
  refine e_tree_Tree_K rfl ?_
  refine ⟨by decide, ldB hb rfl ?_⟩
  exact ⟨rfl, rfl⟩

theorem tree_root_spec {k b : Nat} {l : List Ent} {w : World} (tr : TreeRep w.heap b k l) : CallK Try.prog F_tree_Tree_Root [ptr b] (fun r w' => w = w' ∧ ∃ o n, r = ptrO o ∧ NodeO w.heap k o n l) w := by
  obtain ⟨⟨o, n, hb, ho⟩, -⟩ := tr
  refine e_tree_Tree_Root rfl ?_
  refine ⟨by decide, ldB hb rfl ?_⟩
  exact ⟨rfl, o, n, rfl, ho⟩

theorem tree_new_spec {k : Nat} (h1 : 1 ≤ k) (h16 : k ≤ 16) (w : World) : CallK Try.prog F_tree_New [I k] (fun r w' => Ext w w' ∧ ∃ b, r = .tuple #[ptr b, I 0] ∧ w.heap.size ≤ b ∧ TreeRep w'.heap b k []) w := by
  refine e_tree_New rfl ?_
  refine cl (R := fun r w' => Ext w w' ∧ ∃ b, r = .tuple #[ptr b, I 0] ∧ w.heap.size ≤ b ∧ TreeRep w'.heap b k []) ?_ ?_
  · refine e_tree_Of rfl ?_
    refine tsF (by omega) ?_
    refine tsF (by omega) ?_
    refine al ?_
    intro b w1 hb hx hsz hblk
    exact ⟨hx, b, rfl, by omega, ⟨⟨none, 0, hblk, rfl⟩, h1, h16⟩⟩
  rintro _ w1 ⟨hx, b, rfl, hb, tr⟩
  exact ⟨hx, b, rfl, hb, tr⟩

end Go.Proofs.Ytlpndcfkjkbeoaa

namespace Go.Proofs.Ytlpndcfkjkbeoaa
open Go Go.Pan

theorem tree_len_spec {k b : Nat} {l : List Ent} {w : World} (tr : TreeRep w.heap b k l) (hl : l.length < 2 ^ 62) : CallK Try.prog F_tree_Tree_Len [ptr b] (fun r w' => Ext w w' ∧ r = I l.length) w := by
  refine e_tree_Tree_Len rfl ?_
  refine cl (tree_root_spec tr) ?_
  rintro _ _ ⟨rfl, o, n, rfl, ho⟩
  cases o with
  | none =>
    have : l = [] := ho
    subst this
    refine cl (nil_sums_spec _) ?_
    rintro _ w1 ⟨hx, rfl⟩
    refine nm (v := ((0 : Nat) : Int)) (wr64 rfl (by decide) (by decide)) ?_
    exact ⟨hx, rfl⟩
  | some r =>
    refine cl (node_sums_spec (show NodeRep w.heap k r n l from ho)) ?_
    rintro _ w1 ⟨hx, rfl⟩
    refine nm (v := ((l.length : Nat) : Int)) (wr64 (by rw [Nat.mod_eq_of_lt (by omega)]) (by omega) (by omega)) ?_
    exact ⟨hx, rfl⟩

end Go.Proofs.Ytlpndcfkjkbeoaa

namespace Go.Proofs.Ytlpndcfkjkbeoaa
open Go Go.Pan

theorem same_entries_spec {v u : Value} {l m : List Ent} {w : World} (s : EntL w.heap v l) (t : EntL w.heap u m) (hl : l.length ≤ 1000000) (hk : ∀ e ∈ l, e.1.length ≤ 1000000) :
    CallK Try.prog F_ref01_SameEntries [v, u] (fun r w' => Ext w w' ∧ r = .bool (decide (l = m))) w := by
  obtain ⟨a, cap, rfl⟩ := s.form
  obtain ⟨a', cap', rfl⟩ := t.form
  refine e_ref01_SameEntries rfl ?_
  refine ts (fun g => ?_) (fun g => ?_)
  rotate_left
  · exact ⟨Ext.refl _, by rw [decide_eq_false (fun h => g (by rw [h]))]; rfl⟩
  have hlm : l.length = m.length := by omega
  refine lp (fun j : Nat => [(0, .slice a l.length cap), (1, .slice a' m.length cap'), (5, I j)]) (fun j w' => Ext w w' ∧ j ≤ l.length ∧ l.take j = m.take j) (fun j => l.length - j) 0 ⟨rfl, rfl, rfl, trivial⟩ ⟨Ext.refl w, by omega, rfl⟩ ?_
  rintro j e w1 ⟨hx, hj, heq⟩
  rcases Nat.lt_or_ge j l.length with hj1 | hj1
  · have hj2 : j < m.length := by omega
    obtain ⟨b, o, pv, rfl, hc1, hc2, hsl⟩ := s.place hj1
    obtain ⟨b', o', pv', rfl, hc1', hc2', hsl'⟩ := t.place hj2
    refine tsT (by omega) ?_
    refine ix rfl hj1 ?_
    refine ⟨by decide, ld (hx.cel hc2) ?_⟩
    refine ix rfl hj2 ?_
    refine ⟨by decide, ld (hx.cel hc2') ?_⟩
    refine ts (fun g2 => ?_) (fun g2 => ?_)
    · refine ix rfl hj1 ?_
      refine ⟨by decide, ld (hx.cel hc1) ?_⟩
      refine ix rfl hj2 ?_
      refine ⟨by decide, ld (hx.cel hc1') ?_⟩
      refine cl (same_spec (w := drw w1) (hsl.ext hx.1) (hsl'.ext hx.1) (hk _ (List.getElem_mem hj1))) ?_
      rintro _ w2 ⟨hx2, rfl⟩
      refine ⟨hx2, ?_⟩
      have hx02 : Ext w w2 := hx.trans hx2
      by_cases hp : l[j].1 = m[j].1
      · rw [decide_eq_true hp]
        refine nm (inc64 (by omega)) ?_
        exact ⟨j + 1, ⟨⟨rfl, rfl, rfl, trivial⟩, hx02, hj1, by rw [take_snoc l j hj1, take_snoc m j hj2, heq, show l[j] = m[j] from Prod.ext hp (by omega)]⟩, by omega⟩
      · rw [decide_eq_false hp]
        exact ⟨hx02, by rw [decide_eq_false (fun h => hp (by subst h; rfl))]; rfl⟩
    · exact ⟨hx.trans (Ext.drw _), by rw [decide_eq_false (fun h => g2 (by subst h; rfl))]; rfl⟩
  · have hj' : j = l.length := by omega
    subst hj'
    refine tsF (by omega) ?_
    rw [List.take_length, hlm, List.take_length] at heq
    exact ⟨hx, by rw [decide_eq_true heq]; rfl⟩

end Go.Proofs.Ytlpndcfkjkbeoaa

namespace Go.Pan
open Go

/-! ### slices of elements of one size, by what each element's cells mean -/

structure Lst {α : Type} (E : Array Obj → List Value → α → Prop) (m : Nat) (h : Array Obj) (v : Value) (l : List α) : Prop where
  ex : ∃ css : List (List Value), css.length = l.length ∧ Rw h v l.length css.flatten ∧ (∀ cs ∈ css, cs.length = m) ∧ ∀ i (h1 : i < css.length) (h2 : i < l.length), E h css[i] l[i]

theorem Lst.form {α : Type} {E : Array Obj → List Value → α → Prop} {m : Nat} {h : Array Obj} {v : Value} {l : List α} (s : Lst E m h v l) : ∃ a cap, v = .slice a l.length cap := by
  obtain ⟨css, hl, hr, -⟩ := s
  exact hr.form

theorem Lst.ext {α : Type} {E : Array Obj → List Value → α → Prop} {m : Nat} (hE : ∀ {h h' cs x}, HExt h h' → E h cs x → E h' cs x) {h h' : Array Obj} (x : HExt h h') {v : Value} {l : List α} (s : Lst E m h v l) : Lst E m h' v l := by
  obtain ⟨css, hl, hr, hm, he⟩ := s
  exact ⟨css, hl, hr.ext x, hm, fun i h1 h2 => hE x (he i h1 h2)⟩

theorem flatten_elem {m : Nat} : ∀ {css : List (List Value)}, (∀ cs ∈ css, cs.length = m) → ∀ i (h : i < css.length), (css.flatten.drop (i * m)).take m = css[i]
  | [], _, i, h => by simp at h
  | c :: css, hm, 0, _ => by
    have := hm c (by simp)
    simp [← this]
  | c :: css, hm, i + 1, h => by
    have hc := hm c (by simp)
    have ih := flatten_elem (fun cs h2 => hm cs (List.mem_cons_of_mem _ h2)) i (by simpa using h)
    rw [List.flatten_cons, List.drop_append, List.drop_eq_nil_of_le (by rw [hc, Nat.succ_mul]; omega), List.nil_append, hc, show (i + 1) * m - m = i * m from by rw [Nat.succ_mul]; omega, ih]
    rfl

theorem Lst.place {α : Type} {E : Array Obj → List Value → α → Prop} {m : Nat} {h : Array Obj} {a : Option Addr} {cap : Nat} {l : List α} (s : Lst E m h (.slice a l.length cap) l) {j : Nat} (hj : j < l.length) :
    ∃ b o cs, a = some ⟨b, o, none⟩ ∧ celsAt h ⟨b, o + j * m, none⟩ cs ∧ cs.length = m ∧ E h cs l[j] := by
  obtain ⟨css, hl, hr, hm, he⟩ := s
  obtain ⟨b, o, rfl, hc⟩ := hr.place (by omega)
  have hj' : j < css.length := by omega
  exact ⟨b, o, css[j], rfl, hc.sub (flatten_elem hm j hj'), hm _ (List.getElem_mem hj'), he j hj' hj⟩

/-- a slice's place, where there is an element at all -/
theorem Lst.base {α : Type} {E : Array Obj → List Value → α → Prop} {m : Nat} {h : Array Obj} {v : Value} {l : List α} (s : Lst E m h v l) : l = [] ∨ ∃ b o cap, v = .slice (some ⟨b, o, none⟩) l.length cap := by
  obtain ⟨a, cap, rfl⟩ := s.form
  cases l with
  | nil => exact .inl rfl
  | cons x l =>
    obtain ⟨b, o, cs, rfl, -⟩ := s.place (j := 0) (by simp)
    exact .inr ⟨b, o, cap, rfl⟩

end Go.Pan
namespace Go.Proofs.Ytlpndcfkjkbeoaa
open Go Go.Pan

/-! ### law07: Heavy, Done, Grown -/

/-- what is done: a point gets a value, or loses it -/
structure Act where
  del : Bool
  p : List Nat
  v : Nat
def ActE (h : Array Obj) (cs : List Value) (a : Act) : Prop := ∃ pv, cs = [.bool a.del, pv, U a.v] ∧ Sl h pv a.p ∧ a.v < 2 ^ 64
abbrev ActL := Lst ActE 3
theorem ActE.ext {h h' : Array Obj} {cs : List Value} {a : Act} (x : HExt h h') (e : ActE h cs a) : ActE h' cs a := by
  obtain ⟨pv, h1, h2, h3⟩ := e
  exact ⟨pv, h1, h2.ext x, h3⟩
theorem ActL.ext {h h' : Array Obj} (x : HExt h h') {v : Value} {l : List Act} (s : ActL h v l) : ActL h' v l := Lst.ext (fun x e => e.ext x) x s

theorem heavy_spec {v : Value} {l : List Act} {w : World} (s : ActL w.heap v l) (hl : l.length ≤ 9223372036854775807) (most : Nat) :
    CallK Try.prog F_law07_Heavy [v, I most] (fun r w' => w = w' ∧ ∃ t, r = .bool t ∧ (t = false → l.length ≤ most ∧ ∀ a ∈ l, a.p.length ≤ 40)) w := by
  obtain ⟨a, cap, rfl⟩ := s.form
  refine e_law07_Heavy rfl ?_
  refine ts (fun g => ?_) (fun g => ?_)
  · exact ⟨rfl, true, rfl, fun h => by cases h⟩
  refine lp (fun j : Nat => [(0, .slice a l.length cap), (5, I j)]) (fun j w' => w = w' ∧ j ≤ l.length ∧ ∀ a ∈ l.take j, a.p.length ≤ 40) (fun j => l.length - j) 0 ⟨rfl, rfl, trivial⟩ ⟨rfl, by omega, by simp⟩ ?_
  rintro j e _ ⟨rfl, hj, hall⟩
  rcases Nat.lt_or_ge j l.length with h | h
  · obtain ⟨b, o, cs, rfl, hc, -, pv, rfl, hp, hv⟩ := s.place h
    obtain ⟨pa, pcap, hpf⟩ := hp.form
    subst hpf
    refine tsT (by omega) ?_
    refine ix rfl h ?_
    refine ⟨by decide, ld (hc.get (j := 1) rfl) ?_⟩
    refine ts (fun g2 => ?_) (fun g2 => ?_)
    · exact ⟨rfl, true, rfl, fun h => by cases h⟩
    · refine nm (inc64 (by omega)) ?_
      refine ⟨j + 1, ⟨⟨rfl, rfl, trivial⟩, rfl, h, fun a ha => ?_⟩, by omega⟩
      rw [take_snoc l j h] at ha
      rcases List.mem_append.1 ha with ha | ha
      · exact hall a ha
      · rw [List.mem_singleton.1 ha]; omega
  · have hj' : j = l.length := by omega
    subst hj'
    refine tsF (by omega) ?_
    rw [List.take_length] at hall
    exact ⟨rfl, false, rfl, fun _ => ⟨by omega, hall⟩⟩

end Go.Proofs.Ytlpndcfkjkbeoaa

namespace Go.Proofs.Ytlpndcfkjkbeoaa
open Go Go.Pan

theorem tree_put_dim {k b : Nat} {l : List Ent} {w : World} {u : Value} {q : List Nat} (tr : TreeRep w.heap b k l) (t : Sl w.heap u q) (hq : q.length ≠ k) (x : Nat) :
    CallK Try.prog F_tree_Tree_Put [ptr b, u, U x] (fun r w' => w = w' ∧ r = .tuple #[nilp, I 2]) w := by
  refine e_tree_Tree_Put rfl ?_
  refine cl (tree_check_spec tr t) ?_
  rintro _ _ ⟨rfl, rfl⟩
  rw [if_neg hq]
  refine tsF (by decide) ?_
  exact ⟨rfl, rfl⟩
theorem tree_del_dim {k b : Nat} {l : List Ent} {w : World} {u : Value} {q : List Nat} (tr : TreeRep w.heap b k l) (t : Sl w.heap u q) (hq : q.length ≠ k) :
    CallK Try.prog F_tree_Tree_Del [ptr b, u] (fun r w' => w = w' ∧ r = .tuple #[nilp, I 2]) w := by
  refine e_tree_Tree_Del rfl ?_
  refine cl (tree_check_spec tr t) ?_
  rintro _ _ ⟨rfl, rfl⟩
  rw [if_neg hq]
  refine tsF (by decide) ?_
  exact ⟨rfl, rfl⟩

theorem putL_ext {X l l1 l2 : List Ent} {q : List Nat} (h1 : PutL X q l l1) (h2 : PutL X q l l2) (s1 : Srt l1) (s2 : Srt l2) : l1 = l2 := srt_ext s1 s2 fun e => (h1 e).trans (h2 e).symm
theorem putL_self {q : List Nat} {x : Nat} {l : List Ent} (hs : Srt l) (h : (q, x) ∈ l) : PutL [(q, x)] q l l := fun e => by
  constructor
  · intro he
    by_cases hq : e.1 = q
    · exact .inl (List.mem_singleton.2 (srt_inj hs he h hq))
    · exact .inr ⟨he, hq⟩
  · rintro (he | ⟨he, -⟩)
    · rw [List.mem_singleton.1 he]; exact h
    · exact he

theorem TreeRep.blk {h : Array Obj} {b k : Nat} {l : List Ent} (r : TreeRep h b k l) : noFrz h b := by
  obtain ⟨⟨o, n, hb, -⟩, -⟩ := r
  exact ⟨_, _, hb⟩
theorem TreeRep.lt {h : Array Obj} {b k : Nat} {l : List Ent} (r : TreeRep h b k l) : b < h.size := by
  obtain ⟨⟨o, n, hb, -⟩, -⟩ := r
  exact lt_of_blk hb

/-- a tree and the document's list -/
structure Both (w : World) (k : Nat) (r1 r2 : Value) (l : List Ent) (n : Nat) : Prop where
  ex : ∃ b, r1 = ptr b ∧ TreeRep w.heap b k l
  ents : EntS w.heap r2 l
  le : l.length ≤ n
theorem Both.ext {w w' : World} (x : Ext w w') {k : Nat} {r1 r2 : Value} {l : List Ent} {n : Nat} (b : Both w k r1 r2 l n) : Both w' k r1 r2 l n := by
  obtain ⟨⟨c, h1, h2⟩, h3, h4⟩ := b
  exact ⟨⟨c, h1, h2.ext x.1⟩, h3.ext x.1, h4⟩

set_option maxHeartbeats 1000000 in
theorem done_spec {k : Nat} {r1 r2 pv : Value} {l : List Ent} {n : Nat} {w : World} (hb : Both w k r1 r2 l n) (hn : n ≤ 50000) {a : Act} (hp : Sl w.heap pv a.p) (hv : a.v < 2 ^ 64) :
    CallK Try.prog F_law07_Done [r1, r2, .agg #[.bool a.del, pv, U a.v]] (fun r w' => Ext w w' ∧ ∃ s1 s2 l', r = .tuple #[s1, s2, .bool true] ∧ Both w' k s1 s2 l' (n + 1)) w := by
  obtain ⟨⟨b, rfl, tr⟩, hen, hle⟩ := hb
  obtain ⟨ds, p, x⟩ := a
  simp only at hp hv
  have hk16 := tr.k16
  have hsrt := tr.srt
  have hok := tr.ok
  obtain ⟨pa, pcap, rfl⟩ := hp.form
  refine e_law07_Done rfl ?_
  refine al ?_
  intro nb w1 hnb hx1 hsz1 hblk1
  have hb1 : w1.heap[nb]? = some (.cells #[.bool ds, .slice pa p.length pcap, U x] T_law07_Act (0, 0)) := hblk1
  refine cl (tree_k_spec (tr.ext hx1.1)) ?_
  rintro _ _ ⟨rfl, rfl⟩
  refine ⟨by decide, ldB hb1 rfl ?_⟩
  have hp1 := hp.ext hx1.1
  cases ds with
  | true =>
    refine ⟨by decide, ldB hb1 rfl ?_⟩
    by_cases hq : p.length = k
    · refine cl (tree_del_spec (tr.ext hx1.1) hp1 hq) ?_
      rintro _ w2 ⟨hx2, hcase⟩
      have hx02 : Ext w w2 := hx1.trans hx2
      have hb2 := hx2.blk hb1
      have hp2 := hp.ext hx02.1
      rcases hcase with ⟨rfl, hnone⟩ | ⟨b', l', rfl, hb', ⟨y, hy⟩, tr', hput⟩
      · refine ⟨by decide, ldB hb2 rfl ?_⟩
        refine tsT (by omega) ?_
        refine ⟨by decide, ldB hb2 rfl ?_⟩
        refine cl (ref_get_spec (hen.toL.ext hx02.1) hp2 hsrt (fun e he => ⟨by rw [hq]; exact (hok e he).1, (hok e he).2.1⟩) (by omega) (by omega)) ?_
        rintro _ _ ⟨rfl, ⟨rfl, -⟩ | ⟨y, -, hy⟩⟩
        · refine tsT rfl ?_
          exact ⟨hx02, _, _, l, rfl, ⟨⟨b, rfl, tr.ext hx02.1⟩, hen.ext hx02.1, by omega⟩⟩
        · exact absurd rfl (hnone _ hy)
      · refine ⟨by decide, ldB hb2 rfl ?_⟩
        refine tsT (by omega) ?_
        refine ⟨by decide, ldB hb2 rfl ?_⟩
        refine cl (ref_get_spec (hen.toL.ext hx02.1) hp2 hsrt (fun e he => ⟨by rw [hq]; exact (hok e he).1, (hok e he).2.1⟩) (by omega) (by omega)) ?_
        rintro _ _ ⟨rfl, ⟨-, h⟩ | ⟨z, rfl, hz⟩⟩
        · exact absurd rfl (h _ hy)
        refine ⟨by decide, ldB hb2 rfl ?_⟩
        refine cl (ref_del_spec (hen.ext hx02.1) hp2 hsrt (fun e he => ⟨by rw [hq]; exact (hok e he).1, (hok e he).2.1⟩) (by omega) (by omega)) ?_
        rintro v3 w3 ⟨hx3, l'', hen'', hs'', hput'', hle''⟩
        have := putL_ext hput hput'' tr'.srt hs''
        subst this
        refine tsT rfl ?_
        exact ⟨hx02.trans hx3, _, _, l', rfl, ⟨⟨b', rfl, tr'.ext hx3.1⟩, hen'', by omega⟩⟩
    · refine cl (tree_del_dim (tr.ext hx1.1) hp1 hq) ?_
      rintro _ _ ⟨rfl, rfl⟩
      refine ⟨by decide, ldB hb1 rfl ?_⟩
      refine tsF (by omega) ?_
      refine tsT rfl ?_
      exact ⟨hx1, _, _, l, rfl, ⟨⟨b, rfl, tr.ext hx1.1⟩, hen.ext hx1.1, by omega⟩⟩
  | false =>
    refine ⟨by decide, ldB hb1 rfl ?_⟩
    refine ⟨by decide, ldB hb1 rfl ?_⟩
    by_cases hq : p.length = k
    · refine cl (tree_put_spec (tr.ext hx1.1) hp1 hq hv) ?_
      rintro _ w2 ⟨hx2, hcase⟩
      have hx02 : Ext w w2 := hx1.trans hx2
      have hb2 := hx2.blk hb1
      have hp2 := hp.ext hx02.1
      have hokq : ∀ e ∈ l, e.1.length = p.length ∧ small 64 e.1 := fun e he => ⟨by rw [hq]; exact (hok e he).1, (hok e he).2.1⟩
      rcases hcase with ⟨rfl, hin⟩ | ⟨b', l', rfl, hb', hnot, tr', hput⟩
      · refine ⟨by decide, ldB hb2 rfl ?_⟩
        refine tsT (by omega) ?_
        refine ⟨by decide, ldB hb2 rfl ?_⟩
        refine cl (ref_get_spec (hen.toL.ext hx02.1) hp2 hsrt hokq (by omega) (by omega)) ?_
        rintro _ _ ⟨rfl, ⟨-, h⟩ | ⟨z, rfl, hz⟩⟩
        · exact absurd rfl (h _ hin)
        have hzx : z = x := congrArg Prod.snd (srt_inj hsrt hz hin rfl)
        subst hzx
        refine ⟨by decide, ldB hb2 rfl ?_⟩
        refine ⟨by decide, ldB hb2 rfl ?_⟩
        refine tsT rfl ?_
        refine cl (ref_put_spec (w := drw w2) (hen.ext hx02.1) hp2 hsrt hokq (by omega) (by omega) z) ?_
        rintro v3 w3 ⟨hx3, l'', hen'', hs'', hput'', hle''⟩
        refine ⟨hx3, ?_⟩
        have := putL_ext (putL_self hsrt hin) hput'' hsrt hs''
        subst this
        refine ⟨by decide, ldB hb2 rfl ?_⟩
        refine tsT rfl ?_
        refine ⟨by decide, (tr.ext hx02.1).blk, (tr.ext hx02.1).blk, tsT rfl ?_⟩
        refine tsT rfl ?_
        exact ⟨hx02.trans hx3, _, _, l, rfl, ⟨⟨b, rfl, tr.ext (hx02.trans hx3).1⟩, hen'', by omega⟩⟩
      · refine ⟨by decide, ldB hb2 rfl ?_⟩
        refine tsT (by omega) ?_
        refine ⟨by decide, ldB hb2 rfl ?_⟩
        refine cl (ref_get_spec (hen.toL.ext hx02.1) hp2 hsrt hokq (by omega) (by omega)) ?_
        rintro rg _ ⟨rfl, hget⟩
        have hget' : ∃ y t, rg = .tuple #[U y, .bool t] ∧ (t = true → y ≠ x) := by
          rcases hget with ⟨rfl, -⟩ | ⟨y, rfl, hy⟩
          · exact ⟨0, false, rfl, fun h => by cases h⟩
          · exact ⟨y, true, rfl, fun _ e => hnot (e ▸ hy)⟩
        obtain ⟨y, t, rfl, hty⟩ := hget'
        refine ⟨by decide, ldB hb2 rfl ?_⟩
        refine ⟨by decide, ldB hb2 rfl ?_⟩
        refine tsT rfl ?_
        refine cl (ref_put_spec (w := drw w2) (hen.ext hx02.1) hp2 hsrt hokq (by omega) (by omega) x) ?_
        rintro v3 w3 ⟨hx3, l'', hen'', hs'', hput'', hle''⟩
        refine ⟨hx3, ?_⟩
        have := putL_ext hput hput'' tr'.srt hs''
        subst this
        have hne : (⟨b', 0, none⟩ : Addr) ≠ ⟨b, 0, none⟩ := fun h => by
          have := congrArg Addr.block h
          simp only at this
          have := tr.lt; have := hx1.1.1; omega
        have hfin : Both w3 k (ptr b') v3 l' (n + 1) := ⟨⟨b', rfl, tr'.ext hx3.1⟩, hen'', by omega⟩
        cases t with
        | true =>
          refine ⟨by decide, ldB hb2 rfl ?_⟩
          refine tsF (by have := hty rfl; omega) ?_
          refine ⟨by decide, tr'.blk, (tr.ext hx02.1).blk, tsF hne ?_⟩
          refine tsT rfl ?_
          exact ⟨hx02.trans hx3, _, _, l', rfl, hfin⟩
        | false =>
          refine ⟨by decide, tr'.blk, (tr.ext hx02.1).blk, tsF hne ?_⟩
          refine tsT rfl ?_
          exact ⟨hx02.trans hx3, _, _, l', rfl, hfin⟩
    · refine cl (tree_put_dim (tr.ext hx1.1) hp1 hq x) ?_
      rintro _ _ ⟨rfl, rfl⟩
      refine ⟨by decide, ldB hb1 rfl ?_⟩
      refine tsF (by omega) ?_
      refine tsT rfl ?_
      exact ⟨hx1, _, _, l, rfl, ⟨⟨b, rfl, tr.ext hx1.1⟩, hen.ext hx1.1, by omega⟩⟩

end Go.Proofs.Ytlpndcfkjkbeoaa
